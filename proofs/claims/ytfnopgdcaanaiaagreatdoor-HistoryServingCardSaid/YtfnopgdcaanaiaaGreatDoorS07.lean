/- No condition. -/
import Derived.Test.YtfnopgdcaanaiaaGreatDoorS02
import Derived.Test.YtfnopgdcaanaiaaGreatDoorS03
import Derived.Test.YtfnopgdcaanaiaaGreatDoorS05
set_option linter.all false
set_option maxRecDepth 100000
set_option maxHeartbeats 8000000
namespace Go.Proofs.YtfnopgdcaanaiaaGreatDoor
open Go.Proofs.Tryz
section
open Go.RowKit Go.Sort Go.Shelf
section
variable {α:Type} [Inhabited α]
theorem Ja(enc:α->List Value)(k:Nat)(hk:∀ x,(enc x).length=k)(h0:0<k)(xs:List α):(flatK enc k xs.toArray).toList=(xs.map enc).flatten:=by
 have hlen:(xs.map enc).flatten.length=xs.length * k:=by
  clear h0
  induction xs with
  | nil=>simp
  | cons y ys ih=>rw[List.map_cons,List.flatten_cons,List.length_append,ih,hk,List.length_cons,Nat.succ_mul];omega
 apply List.ext_getElem?;intro t;by_cases ht:t<xs.length * k
 ·have h1:t / k<xs.length:=(Nat.div_lt_iff_lt_mul h0).2 ht;have h2:t % k<k:=Nat.mod_lt _ h0;have hr:(xs.map enc)[t / k]?=some (enc xs[t / k]):=by simp[h1]
  have hu:(enc xs[t / k])[t % k]?=some ((enc xs[t / k])[t % k]'(by rw[hk];exact h2)):=aQ _;have h3:=Er (xs.map enc) (t / k) (t % k) _ _ (by intro r hr;obtain⟨x,_,rfl⟩:=List.mem_map.1 hr;exact hk x) hr hu;rw[show t / k * k+t % k=t by rw[Nat.mul_comm];exact Nat.div_add_mod t k] at h3;rw[h3];have hs:t<(flatK enc k xs.toArray).size:=by simpa using ht
  rw[Array.getElem?_toList,pQ hs];congr 1;have h4:=get_flatK enc k xs.toArray t (by simpa using ht);rw[getElem!_pos (flatK enc k xs.toArray) t hs] at h4;rw[h4];rw[getElem!_pos xs.toArray (t / k) (by simpa using h1)];rw[getElem!_pos _ (t % k) (by rw[hk];exact h2)];simp
 ·rw[List.getElem?_eq_none (by simp;omega),List.getElem?_eq_none (by rw[hlen];omega)]
theorem QQ(enc:α->List Value)(k:Nat)(hk:∀ x,(enc x).length=k)(h0:0<k){w:World}{g:Nat}{cur:Array Value}{e:TypeId}{xs:List α}(hb:w.heap[g]?=some (.cells cur e (0,0)))(ht:cur.toList.take (xs.length * k)=(xs.map enc).flatten):HoldsK enc k w g 0 xs.toArray:=by
 intro j hj;have hj':j<xs.length * k:=by simpa using hj
 refine⟨?_,by simp[World.frozen?,hb]⟩;have h1:(cur.toList.take (xs.length * k))[j]?=(flatK enc k xs.toArray).toList[j]?:=by rw[ht,Ja enc k hk h0]
 rw[List.getElem?_take_of_lt hj'] at h1;simp only[World.cell?,hb,Nat.zero_add,Option.isSome_none,Bool.false_eq_true,if_false];rw[<-Array.getElem?_toList,h1];have hs:j<(flatK enc k xs.toArray).size:=by simpa using hj'
 rw[Array.getElem?_toList,pQ hs,getElem!_pos _ j hs];rfl
theorem apZ(enc:α->List Value)(k:Nat){w:World}{g n:Nat}{os:Array Obj}{cur:Array Value}{e:TypeId}{fr:Nat×Nat}(d:Array α)(hb:w.heap[g]?=some (.cells cur e fr)) :
 (sortWorldK enc k w g 0 n d os).heap[g]?=some (.cells (putCells id 0 (flatK enc k d) cur) e fr):=by
 have hl:g<w.heap.size:=(eQ.1 hb).1;unfold sortWorldK putRowK;rw[heap_grow_old _ _ (by simpa [putRow,mapBlock,Sort.ahead] using hl)];simp[putRow,mapBlock,Sort.ahead,Array.getElem?_modify,hb,onCells]
theorem Pu(enc:α->List Value)(k:Nat){w:World}{g n:Nat}{os:Array Obj}(d:Array α):w.grownBy (sortWorldK enc k w g 0 n d os) (some g):=by
 unfold sortWorldK putRowK;refine⟨rfl,rfl,rfl,by simp,λq hq hne=>?_⟩;rw[heap_grow_old _ _ (by simpa using hq)]
 have:g≠q:=λe=>hne (by rw[e])
 simp[putRow,mapBlock,Sort.ahead,Array.getElem?_modify,this]
theorem SJ(enc:α->List Value)(k:Nat)(hk:∀ x,(enc x).length=k)(h0:0<k){w:World}{base g cap n:Nat}{e:TypeId}{os:Array Obj}{cur:Array Value}{xs ys:List α}(hl:ys.length=xs.length)(dM:base<=g)(hb:w.heap[g]?=some (.cells cur e (0,0)))
 (h1:xs.length<=cap) (h2:cap<=maxLen) (h3:cur.size=cap * k) :
 (sortWorldK enc k w g 0 n ys.toArray os).ownsRow base e k (.slice (some ⟨g,0,none⟩) xs.length cap) xs.length (ys.map enc).flatten:=by
 have vX:(ys.map enc).flatten.length=ys.length * k:=by
  rw[<-Ja enc k hk h0 ys];simp
 have fF:ys.length * k<=cur.size:=by rw[h3];exact Nat.mul_le_mul_right k (by omega)
 refine⟨by rw[vX,hl],.inr ⟨g,cap,_,rfl,dM,apZ enc k _ hb,h1,h2,by simp[putCells,h3],?_⟩⟩;rw[<-hl];apply List.ext_getElem?;intro j;by_cases hj:j<ys.length * k
 ·rw[List.getElem?_take_of_lt hj,Array.getElem?_toList,<-Ja enc k hk h0 ys];have hs:j<(flatK enc k ys.toArray).size:=by simpa using hj
  rw[Array.getElem?_toList,pQ hs];have pN:j<cur.size:=by omega
  simp[putCells,hj,pN]
 ·rw[List.getElem?_take_eq_none (by omega),List.getElem?_eq_none (by rw[vX];omega)]
end
def fP(s:Np.Span):List Value:=[.int .i64 s.frm,.int .i64 s.til]
def aW(base:Nat)(w:World)(v:Value)(ps:List Np.Span):Prop:=w.ownsRow base 110 2 v ps.length (ps.map fP).flatten
theorem aW.form{base:Nat}{w:World}{v:Value}{ps:List Np.Span}(h:aW base w v ps):∃ A c,v = .slice A ps.length c:=oN h
theorem aW.alloc{base:Nat}{w:World}{v:Value}{ps:List Np.Span}(h:aW base w v ps)(o:Obj):aW base (w.alloc o) v ps:=World.ownsRow.alloc h o
theorem aW.keep{base:Nat}{w w':World}{v:Value}{ps:List Np.Span}(h:aW base w v ps)(hb:Below w.heap.size w w'):aW base w' v ps:=dS h (λg hg=>hb.block g (h.lt g hg).2)
theorem aW.nil(base:Nat)(w:World):aW base w (.slice none 0 0) []:=⟨by simp,.inl ⟨rfl,rfl⟩⟩
theorem aW.slr{base:Nat}{w:World}{v:Value}{ps:List Np.Span}(h:aW base w v ps)(hl:ps.length<=140737488355328):SlR fj 2 w w.heap.size v ps:=by
 refine Ln (sz:=2) (e:=110) (base:=base) fP (λ_ _=>rfl) ?_ hl (λx hx=>rfl)
 have:w.ownsRow base 110 2 v ps.length (ps.map fP).flatten:=h
 rwa [<-List.flatMap_def] at this
theorem Tryz.infoSpan:(prog.info? 110).map (λi=>(i.zero,i.size,i.bytes))=some (some (.agg #[.int .i64 0,.int .i64 0]),2,16):=by kernel_rfl
section
variable {ops:Array Oper} {rest:List Oper} {o:Oper} {a:Act} {Q:Exit->Act->World->Prop}
theorem LW(w:World)(gX:o.guard=none)(s x:Operand)(ho:o.op = .call { callee:=.builtin .append,args:=#[s,x],argTypes:=#[55,55] })
 (base:Nat) (v:Value) (ps:List Np.Span) (hs:a.eval s=v) (hown:aW base w v ps) (blk:Nat) (f u:Int) (hx:a.eval x = .slice (some ⟨blk,0,none⟩) 1 1) (hc:w.cell? ⟨blk,0,none⟩=some (.int .i64 f)) (bw:w.cell? ⟨blk,1,none⟩=some (.int .i64 u)) (hlen:ps.length<=100000) (dM:base<=w.heap.size)
 (h:∀ v' w',aW base w' v' (ps ++ [⟨f,u⟩])->Below base w w'->wpList prog ops Q rest (a.put o.dst v') w'):wpList prog ops Q (o::rest) a w:=by
 obtain⟨i0,hi,dP,bF,aO⟩:=info_parts Tryz.infoSpan;refine wpList_append_own_at w gX s x 55 ho base 110 i0 (.agg #[.int .i64 0,.int .i64 0]) 2 16 underlying55 hi dP bF aO rfl (by decide) v ps.length (ps.map fP).flatten hs hown ⟨blk,0,none⟩ 1 1 [.int .i64 f,.int .i64 u] hx rfl ?_ (by simp[Value.oneCell']) (by unfold maxLen;omega) (by omega) dM ?_
 ·intro j y hj
  match j,hj with
  | 0,hj=>simp at hj;subst hj;simpa [Addr.add] using hc
  | 1,hj=>simp at hj;subst hj;simpa [Addr.add] using bw
  | j+2,hj=>simp at hj
 ·intro v' w' ho' hg _ _;refine h v' w' ?_ ((vQ _ _).grown hg dM (λk hk=>(hown.lt k hk).1));have e:(ps ++ [(⟨f,u⟩:Np.Span)]).length=ps.length+1:=by simp
  unfold aW;rw[e,List.map_append,List.flatten_append];exact ho'
end
theorem adZ(f u:Int)(w:World) :
 Calls prog 177 #[.agg #[.int .i64 f,.int .i64 u]] w (ahZ w.heap.size w (.bool (decide (f<u)))):=by
 have HB:=blW w;go_enter func177,ntmps177;go_wp2_with fail;go_ret;exact⟨rfl,HB.out _⟩
theorem beJ(v:Value)(l:List Np.Span)(bY:l.length<=20000)(hf:∀ s∈l,s.frm<s.til)(w:World)(h:SlR fj 2 w w.heap.size v l) :
 Calls prog 176 #[v,.func (.func 177) #[] #[]] w λe w'=>∃ v',e = .returned v'/\aW w.heap.size w' v' l/\Below w.heap.size w w':=by
 have HD:=jq h;have HF:=jq hf;obtain⟨A,c,rfl,bw,bT⟩:=ak h;clear h hf;have HE:=jq (enters_of func177 (by kernel_rfl) rfl);go_enter func176,ntmps176;go_wp2_with fail;go_loopw [5,10] (λvo i wr=>∃ (k:Nat),k<=l.length/\i = .int .i64 k/\Hid (Below w.heap.size w wr)/\Hid (aW w.heap.size wr vo (l.take k))) (λ_ i _=>l.length - (intOf i).toNat)
 case atStart=>exact⟨0,jQ _,rfl,jq (vQ _ _),jq (aW.nil _ _)⟩
 case round=>
  obtain⟨k,hk,rfl,HB,HO⟩:=hrel;have ay:=HB.out.size;by_cases ab:k<l.length
  ·obtain⟨x,ae⟩:∃ x,l[k]?=some x:=⟨_,aQ ab⟩;obtain⟨A',c',hA',_,_,bL⟩:=HD.out.keep gN HB.out
   cases hA'
   obtain⟨b,o,e,rfl,b7,hlen,hce,hR⟩:=bL k _ ae;obtain rfl:=hR;have h0:wr.cell? ⟨b,o+k * 2,none⟩=some (.int .i64 x.frm):=hce 0 _ rfl;have h1:wr.cell? ⟨b,o+k * 2+1,none⟩=some (.int .i64 x.til):=hce 1 _ rfl;have hd:decide (x.frm<x.til)=true:=uQ (HF.out x (gQ ae));have HT:Hid (l.take (k+1)=l.take k ++ [x]):=jq (by
    obtain⟨hl,he⟩:=cQ.1 ae;rw[fQ hl,he])
   have HL:Hid ((l.take k).length<=100000):=jq (by rw[List.length_take];omega);obtain⟨f,u⟩:=x;have du:b<wr.heap.size:=by omega
   clear bL hce ae;dsimp only at h0 h1 hd;have bA:Hid (∀ o,Below w.heap.size w (wr.alloc o)):=jq (λo=>HB.out.alloc HB.out.size _);go_wp2_with (fail);refine (adZ f u _).mono ?_;rintro e w2 ⟨rfl,aa⟩;rw[hd];have ah:Hid (Below w.heap.size w w2):=jq ((bA.out _).trans (aa.mono (by simp;omega)));have bH:Hid (aW w.heap.size w2 u5 (l.take k)):=jq ((HO.out.alloc _).keep aa);have c0:w2.cell? ⟨wr.heap.size,0,none⟩=some (.int .i64 f):=by rw[aa.cell (by simp)];simp[go_sem]
   have c1:w2.cell? ⟨wr.heap.size,1,none⟩=some (.int .i64 u):=by rw[aa.cell (by simp)];simp[go_sem]
   have aO:wr.heap.size<w2.heap.size:=by have:=aa.size;simp at this;omega
   clear aa;go_wp2_with (at_builtin;refine LW _ rfl _ _ rfl w.heap.size _ (l.take k) rfl (bH.out.alloc _) w2.heap.size f u (by simp[go_sem]) (by simp[go_sem]) (by simp[go_sem]) HL.out (by simp;omega) ?_;intro v5 w5 kn aG;have H5:=jq (And.intro kn aG);clear kn aG);go_roundw
   case rel=>exact⟨k+1,by omega,by go_num,jq ((ah.out.alloc (by omega) _).trans H5.out.2),jq (by rw[HT.out];exact H5.out.1)⟩
   ·simp[intOf]<;>omega
  ·have HE':Hid (l.take k=l):=jq (kQ (by omega));go_wp2_with fail;go_ret;exact⟨_,rfl,by have:=HO.out;rwa [HE'.out] at this,HB.out⟩
instance:Inhabited Np.Span:=⟨⟨0,0⟩⟩
theorem aTK(f u f' u':Int)(w:World) :
 Calls prog 178 #[.agg #[.int .i64 f,.int .i64 u],.agg #[.int .i64 f',.int .i64 u']] w λe w'=>e = .returned (.int .i64 (Np.cL f f'))/\∃ q os,w'=grow (w.drewN q) os:=by
 go_enter func178,ntmps178;go_wp2_with (go_at_call 123;refine (Bm _ _ _).mono ?_;rintro e w' ⟨rfl,rfl⟩);go_ret;exact⟨rfl,0,_,by rw[alloc_eq_grow,alloc_eq_grow,grow_grow];rfl⟩
theorem Fy(x y:Np.Span):ltOf (λx y:Np.Span=>Np.cL x.frm y.frm) x y=decide (x.frm<y.frm):=by
 unfold ltOf Np.cL;by_cases h1:x.frm<y.frm
 ·simp[h1]
 ·by_cases h2:y.frm<x.frm<;>simp[h1,h2]
theorem bjX:SWO (ltOf λx y:Np.Span=>Np.cL x.frm y.frm) where
 irrefl x:=by rw[Fy];simp
 trans x y z h1 h2:=by rw[Fy] at *;simp at *;omega
 ntrans x y z h1 h2:=by rw[Fy] at *;simp at *;omega
theorem bgJ{d d':Array Np.Span}(hp:PermIn 0 d.size d d')(hs:SortedIn (ltOf λx y:Np.Span=>Np.cL x.frm y.frm) 0 d.size d'):d'.toList.Perm d.toList/\d'.toList.Pairwise λa b=>a.frm<=b.frm:=by
 obtain⟨h1,_,h3⟩:=hp;refine⟨?_,?_⟩
 ·have e1:d'.extract 0 d.size=d':=by rw[<-h1];simp
  have e2:d.extract 0 d.size=d:=by simp
  rwa [e1,e2] at h3
 ·rw[List.pairwise_iff_getElem];intro i j hi hj de
  have:=hs i j (jQ _) de (by rw[<-h1];simpa using hj)
  rw[Fy,getElem!_pos d' i (by simpa using hi),getElem!_pos d' j (by simpa using hj)] at this;simpa using this
theorem TS(fid:FuncId)(hfc:∀ (f u f' u':Int) (w:World),Calls prog fid #[.agg #[.int .i64 f,.int .i64 u],.agg #[.int .i64 f',.int .i64 u']] w λe w'=>e = .returned (.int .i64 (Np.cL f f'))/\∃ q os,w'=grow (w.drewN q) os)(eg:∀ args w,(callFunc fid args).run prog w = .ok (.enter fid args) w)(base:Nat)(v:Value)(xs:List Np.Span)(w:World)(hown:aW base w v xs)(hl:xs.length<=100000) :
 Calls prog 121 #[v,.func (.func fid) #[] #[]] w λe w'=>e = .returned (.tuple #[])/\∃ ys:List Np.Span,ys.Perm xs/\ys.Pairwise (λa b=>a.frm<=b.frm)/\aW base w' v ys/\w.grownBy w' v.ownBlock:=by
 have nF:w.ownsRow base 110 2 v xs.length (xs.map fP).flatten:=hown;rcases nF.2 with ⟨rfl,h0⟩ | ⟨g,cap,cur,rfl,dM,hb,h1,h2,h3,h4⟩
 ·have:xs = []:=rQ h0
  subst this;refine (AnyF.slices_SortFunc_none Tryz.sortSpan none 0 _ w).mono ?_;intro e w' hh;obtain⟨rfl,rfl⟩:=hh;exact⟨rfl,[],List.Perm.refl _,List.Pairwise.nil,hown,⟨rfl,rfl,rfl,bQ _,λ_ _ _=>rfl⟩⟩
 have aE:∀ w,(isAgg 110).run prog w = .ok true w:=λw=>by kernel_rfl
 have zE:∀ w,(Go.sizeOf 110).run prog w = .ok 2 w:=λw=>by kernel_rfl
 have hH:=QQ fP 2 (λ_=>rfl) (by omega) hb h4;have vT:CmpLays prog fid #[] fP 2 (λx y:Np.Span=>Np.cL x.frm y.frm) g 0 xs.toArray.size w:=λm os dk _ x y=>hfc x.frm x.til y.frm y.til _;have yO:=AnyQ.slices_SortFunc Tryz.sortSpan 2 aE zE fP (λ_=>rfl) (λx u hu=>by simp only[fP,List.mem_cons,Qh,or_false] at hu;rcases hu with rfl | rfl<;>rfl) (λx y:Np.Span=>Np.cL x.frm y.frm) bjX fid #[] g 0 cap xs.toArray w eg vT hH (eQ.1 hb).1 (by simp;omega);refine yO.mono λe w' ⟨he,d',n,os,hp,hs,hw⟩=>⟨he,d'.toList,?_⟩;obtain⟨p1,p2⟩:=bgJ hp hs;have hlen:d'.toList.length=xs.length:=by simpa using p1.length_eq
 refine⟨by simpa using p1,p2,?_,?_⟩
 ·subst hw;unfold aW;rw[hlen]
  have:=SJ fP 2 (λ_=>rfl) (by omega) (n:=n) (os:=os) hlen dM hb h1 h2 h3
  simpa using this
 ·subst hw;exact Pu fP 2 _
theorem bfX(base:Nat)(v:Value)(xs:List Np.Span)(w:World)(hown:aW base w v xs)(hl:xs.length<=100000) :
 Calls prog 121 #[v,.func (.func 178) #[] #[]] w λe w'=>e = .returned (.tuple #[])/\∃ ys:List Np.Span,ys.Perm xs/\ys.Pairwise (λa b=>a.frm<=b.frm)/\aW base w' v ys/\w.grownBy w' v.ownBlock:=
 TS _ aTK (enters_of func178 (by kernel_rfl) rfl) base v xs w hown hl
theorem T7:∀ (l o:List Np.Span),(l.foldl Np.ga o).length<=o.length+l.length:=by
 intro l
 induction l with
 | nil=>intro o;simp
 | cons s l ih=>
  intro o;have h1:(Np.ga o s).length<=o.length+1:=by
   rcases List.eq_nil_or_concat o with rfl | ⟨q,p,rfl⟩
   ·simp[Np.T6]
   ·rw[List.concat_eq_append,Np.LI];split<;>simp
  have:=ih (Np.ga o s)
  rw[List.foldl_cons,List.length_cons];omega
theorem abX(q:List Np.Span)(p:Np.Span)(u:Int):(((q ++ [p]).map fP).flatten).set (q.length * 2+1) (.int .i64 u)=((q ++ [(⟨p.frm,u⟩:Np.Span)]).map fP).flatten:=by
 have hl:((q.map fP).flatten).length=q.length * 2:=by rw[<-List.flatMap_def];induction q with | nil=>rfl | cons a q ih=>simp[List.flatMap_cons,ih,fP];omega
 rw[List.map_append,List.flatten_append,List.map_append,List.flatten_append,List.set_append_right _ _ (by rw[hl];omega),hl];congr 1;rw[show q.length * 2+1 - q.length * 2=1 by omega];rfl
theorem abK(q:List Np.Span)(p:Np.Span)(j:Nat):(((q ++ [p]).map fP).flatten)[q.length * 2+j]?=(fP p)[j]?:=by
 have hl:((q.map fP).flatten).length=q.length * 2:=by rw[<-List.flatMap_def];induction q with | nil=>rfl | cons a q ih=>simp[List.flatMap_cons,ih,fP];omega
 rw[List.map_append,List.flatten_append,oQ (by rw[hl];omega),hl];simp
theorem bmZ(v:Value)(l:List Np.Span)(bY:l.length<=20000)(w:World)(h:SlR fj 2 w w.heap.size v l) :
 Calls prog 179 #[v] w (λe w'=>∃ v',e = .returned v'/\aW w.heap.size w' v' (l.foldl Np.ga [])/\Below w.heap.size w w'):=by
 have HD:=jq h;obtain⟨A,c,rfl,bw,bT⟩:=ak h;clear h;have HN:Hid (∀ k,((l.take k).foldl Np.ga []).length<=k):=jq (λk=>yQ (T7 _ _) (by simp;omega));go_enter func179,ntmps179;go_wp2_with fail;go_loopw [3,9] (λvo i wr=>∃ (k:Nat),k<=l.length/\i = .int .i64 k/\Hid (Below w.heap.size w wr)/\Hid (aW w.heap.size wr vo ((l.take k).foldl Np.ga []))) (λ_ i _=>l.length - (intOf i).toNat)
 case atStart=>exact⟨0,jQ _,rfl,jq (vQ _ _),jq (aW.nil _ _)⟩
 case round=>
  obtain⟨k,hk,rfl,HB,HO⟩:=hrel;have ay:=HB.out.size;by_cases ab:k<l.length
  ·obtain⟨x,ae⟩:∃ x,l[k]?=some x:=⟨_,aQ ab⟩;obtain⟨A',c',hA',_,_,bL⟩:=HD.out.keep gN HB.out
   cases hA'
   obtain⟨b,o,e,rfl,b7,hlen,hce,hR⟩:=bL k _ ae;obtain rfl:=hR;have h0:wr.cell? ⟨b,o+k * 2,none⟩=some (.int .i64 x.frm):=hce 0 _ rfl;have h1:wr.cell? ⟨b,o+k * 2+1,none⟩=some (.int .i64 x.til):=hce 1 _ rfl;have HT:Hid ((l.take (k+1)).foldl Np.ga []=Np.ga ((l.take k).foldl Np.ga []) x):=jq (by
    obtain⟨hl,he⟩:=cQ.1 ae;rw[fQ hl,he,List.foldl_append];rfl)
   have du:b<wr.heap.size:=by omega
   have bA:Hid (∀ o,Below w.heap.size w (wr.alloc o)):=jq (λo=>HB.out.alloc HB.out.size _);have za:=HN.out k;obtain⟨fr,ti⟩:=x;clear bL hce ae;dsimp only at h0 h1;obtain⟨ol,QP⟩:=afZ ((l.take k).foldl Np.ga []);rw[QP] at HO HT za;clear QP;rcases List.eq_nil_or_concat ol with rfl | ⟨q,p,rfl⟩
   ·obtain⟨A0,c0,rfl⟩:=aW.form HO.out;go_wp2_with fail;go_quiet (fail);obtain⟨w2,aj⟩:=afZ ((wr.alloc (.cells #[.int .i64 fr,.int .i64 ti] 110)).drewN nq);have aO:w2.heap.size=wr.heap.size+1:=by rw[<-aj];simp
    have c0:w2.cell? ⟨wr.heap.size,0,none⟩=some (.int .i64 fr):=by rw[<-aj];simp[go_sem]
    have c1:w2.cell? ⟨wr.heap.size,1,none⟩=some (.int .i64 ti):=by rw[<-aj];simp[go_sem]
    have fm:Below wr.heap.size wr w2:=by rw[<-aj];exact below_drewN (blAl) _
    have ah:Hid (Below w.heap.size w w2):=jq (HB.out.trans (fm.mono ay));have bH:Hid (aW w.heap.size w2 _ []):=jq (HO.out.keep fm);rw[aj];clear aj fm;go_wp2_with (at_builtin;refine LW _ rfl _ _ rfl w.heap.size _ [] rfl (bH.out.alloc _) w2.heap.size fr ti (by simp[go_sem]) (by simp[go_sem]) (by simp[go_sem]) (by simp) (by simp;omega) ?_;intro v5 w5 kn aG;have H5:=jq (And.intro kn aG);clear kn aG);go_roundw
    case rel=>exact⟨k+1,by omega,by go_num,jq ((ah.out.alloc (by omega) _).trans H5.out.2),jq (by rw[HT.out];exact H5.out.1)⟩
    ·simp[intOf]<;>omega
   ·rw[List.concat_eq_append] at HO HT za;have hown:wr.ownsRow w.heap.size 110 2 u3 (q ++ [p]).length ((q ++ [p]).map fP).flatten:=HO.out;have MN:=jq (abK q p);have Vx:=jq (abX q p);have We:Hid ((q ++ [p]).length<=100000):=jq (by omega);have nl:(q ++ [p]).length=q.length+1:=by simp
    have hqk:q.length+1<=k:=by rw[nl] at za;exact za
    clear za;rcases hown.2 with ⟨_,h00⟩ | ⟨g,cap,cur,rfl,dM,hb,bE,bS,_,_⟩
    ·rw[nl] at h00;omega
    have eu:=jq hown;have lg:g<wr.heap.size:=(eQ.1 hb).1;clear hb hown;obtain⟨M,hM⟩:=afZ ((q ++ [p]).length);obtain⟨m,hm⟩:=afZ q.length;have g0:wr.cell? ⟨g,m * 2,none⟩=some (.int .i64 p.frm):=by
     rw[<-hm,eu.out.cellAt _ (by rw[nl];omega)]
     have:=MN.out 0
     rwa [Nat.add_zero] at this
    have g1:wr.cell? ⟨g,m * 2+1,none⟩=some (.int .i64 p.til):=by
     rw[<-hm,eu.out.cellAt _ (by rw[nl];omega)];exact MN.out 1
    have gf:wr.frozen? ⟨g,m * 2+1,none⟩=false:=eu.out.frozenAt _;rw[nl,hm] at hM;have hq:IntKind.i64.wrap ((M:Int) - 1)=(m:Int):=by rw[show (M:Int) - 1=m by omega];simp[IntKind.wrap,IntKind.bits,IntKind.signed];omega
    have hM0:decide (0<(M:Int))=true:=agQ;have bAQ:decide (0<M)=true:=agQ;have hmM:m<M:=by omega
    have bKQ:(m:Int)<(M:Int):=by omega
    have gY:(0:Int)<=(m:Int):=by omega
    have HM:Hid ((q ++ [p]).length=M):=jq (by rw[nl,hm,hM]);rw[HM.out] at bE;have HM2:=jq hM;have HQ:=jq hm;have NY:=jq (Np.LI q p ⟨fr,ti⟩);clear hM hm nl;rw[HM.out];by_cases fF:fr<=p.til
    ·have hd:decide (fr<=p.til)=true:=uQ fF;have mV:Hid ((l.take (k+1)).foldl Np.ga []=q ++ [⟨p.frm,max p.til ti⟩]):=jq (by rw[HT.out,NY.out,Qb fF]);clear fF;go_wp2_with fail;go_quiet (fail);obtain⟨w2,aj⟩:=afZ ((wr.alloc (.cells #[.int .i64 fr,.int .i64 ti] 110)).drewN nq);have aO:w2.heap.size=wr.heap.size+1:=by rw[<-aj];simp
     have c0:w2.cell? ⟨wr.heap.size,0,none⟩=some (.int .i64 fr):=by rw[<-aj];simp[go_sem]
     have c1:w2.cell? ⟨wr.heap.size,1,none⟩=some (.int .i64 ti):=by rw[<-aj];simp[go_sem]
     have fm:Below wr.heap.size wr w2:=by rw[<-aj];exact below_drewN (blAl) _
     have ah:Hid (Below w.heap.size w w2):=jq (HB.out.trans (fm.mono ay));have bH:Hid (aW w.heap.size w2 (.slice (some ⟨g,0,none⟩) M cap) (q ++ [p])):=jq (HM.out ▸ HO.out.keep fm);rw[aj];clear aj;have d1:w2.cell? ⟨g,m * 2+1,none⟩=some (.int .i64 p.til):=(fm.cell lg).trans g1;have df:w2.frozen? ⟨g,m * 2+1,none⟩=false:=(fm.frozen lg).trans gf;clear fm g0 g1 gf;go_wp2_with fail;go_region;have cV:Hid (aW w.heap.size (w2.setCell ⟨g,m * 2+1,none⟩ (.int .i64 (max p.til ti))).drew (.slice (some ⟨g,0,none⟩) M cap) (q ++ [⟨p.frm,max p.til ti⟩])/\Below w.heap.size w (w2.setCell ⟨g,m * 2+1,none⟩ (.int .i64 (max p.til ti))).drew):=jq (by
      have h1:w2.ownsRow w.heap.size 110 2 (.slice (some ⟨g,0,none⟩) (q ++ [p]).length cap) (q ++ [p]).length ((q ++ [p]).map fP).flatten:=by
       have:=bH.out
       rw[<-HM.out] at this;exact this
      obtain⟨h2,h3⟩:=World.ownsRow.stored h1 (m * 2+1) (.int .i64 (max p.til ti));refine⟨aW.keep (w:=w2.setCell ⟨g,m * 2+1,none⟩ (.int .i64 (max p.til ti))) ?_ (vQ _ _).drew,(ah.out.grown h3 ah.out.size (λk hk=>by simp at hk;omega)).drew⟩;rw[<-HQ.out] at h2 |-;rw[Vx.out] at h2;have e1:(q ++ [(⟨p.frm,max p.til ti⟩:Np.Span)]).length=(q ++ [p]).length:=by simp
      unfold aW;rw[e1,<-HM.out];exact h2)
     go_wp2_with fail;go_roundw
     case rel=>exact⟨k+1,by omega,by go_num,jq cV.out.2,jq (by rw[mV.out];exact cV.out.1)⟩
     ·simp[intOf]<;>omega
    ·have hd:decide (fr<=p.til)=false:=tQ fF;have mV:Hid ((l.take (k+1)).foldl Np.ga []=q ++ [p] ++ [⟨fr,ti⟩]):=jq (by rw[HT.out,NY.out,Qc fF]);clear fF;go_wp2_with fail;go_quiet (fail);obtain⟨w2,aj⟩:=afZ ((wr.alloc (.cells #[.int .i64 fr,.int .i64 ti] 110)).drewN nq);have aO:w2.heap.size=wr.heap.size+1:=by rw[<-aj];simp
     have c0:w2.cell? ⟨wr.heap.size,0,none⟩=some (.int .i64 fr):=by rw[<-aj];simp[go_sem]
     have c1:w2.cell? ⟨wr.heap.size,1,none⟩=some (.int .i64 ti):=by rw[<-aj];simp[go_sem]
     have fm:Below wr.heap.size wr w2:=by rw[<-aj];exact below_drewN (blAl) _
     have ah:Hid (Below w.heap.size w w2):=jq (HB.out.trans (fm.mono ay));have bH:Hid (aW w.heap.size w2 (.slice (some ⟨g,0,none⟩) M cap) (q ++ [p])):=jq (HM.out ▸ HO.out.keep fm);rw[aj];clear aj;clear fm g0 g1 gf;go_wp2_with (at_builtin;refine LW _ rfl _ _ rfl w.heap.size _ (q ++ [p]) rfl (bH.out.alloc _) w2.heap.size fr ti (by simp[go_sem]) (by simp[go_sem]) (by simp[go_sem]) We.out (by simp;omega) ?_;intro v5 w5 kn aG;have H5:=jq (And.intro kn aG);clear kn aG);go_roundw
     case rel=>exact⟨k+1,by omega,by go_num,jq ((ah.out.alloc (by omega) _).trans H5.out.2),jq (by rw[mV.out];exact H5.out.1)⟩
     ·simp[intOf]<;>omega
  ·have HE':Hid (l.take k=l):=jq (kQ (by omega));go_wp2_with fail;go_ret;exact⟨_,rfl,by have:=HO.out;rwa [HE'.out] at this,HB.out⟩
def Np.Eb(s:Np.Span):Prop:=0<=s.frm/\s.frm<s.til/\s.til<=20000000
theorem aW.weak{base base':Nat}{w:World}{v:Value}{ps:List Np.Span}(h:aW base w v ps)(hb:base'<=base):aW base' w v ps:=by
 refine⟨h.1,?_⟩;rcases h.2 with h2 | ⟨g,cap,cur,h1,h2,h3⟩
 ·exact .inl h2
 ·exact .inr ⟨g,cap,cur,h1,yQ hb h2,h3⟩
theorem La(l:List Np.Span):(Np.eI l).length<=l.length:=by
 have:=T7 (l.mergeSort λa b=>decide (a.frm<=b.frm)) []
 simpa [Np.eI] using this
theorem SC(v:Value)(l:List Np.Span)(bY:l.length<=20000)(hin:∀ s∈l,Np.Eb s)(w:World)(h:SlR fj 2 w w.heap.size v l) :
 Calls prog 109 #[v] w (λe w'=>∃ v',e = .returned (.tuple #[v',.int .i64 0])/\aW w.heap.size w' v' (Np.eI l)/\Below w.heap.size w w'):=by
 have HD:=jq h;have mp:=jq hin;obtain⟨A,c,rfl,bw,bT⟩:=ak h;clear h hin;have fF:decide (20000<(l.length:Int))=false:=afY;go_enter func109,ntmps109;go_wp2_with fail;go_loopw [12] (λi wr=>∃ (k:Nat),k<=l.length/\i = .int .i64 k/\Hid (Below w.heap.size w wr)) (λi _=>l.length - (intOf i).toNat)
 case atStart=>exact⟨0,jQ _,rfl,jq (vQ _ _)⟩
 case round=>
  obtain⟨k,hk,rfl,HB⟩:=hrel;have ay:=HB.out.size;by_cases ab:k<l.length
  ·obtain⟨x,ae⟩:∃ x,l[k]?=some x:=⟨_,aQ ab⟩;obtain⟨A',c',hA',_,_,bL⟩:=HD.out.keep gN HB.out
   cases hA'
   obtain⟨b,o,e,rfl,b7,hlen,hce,hR⟩:=bL k _ ae;obtain rfl:=hR;have h0:wr.cell? ⟨b,o+k * 2,none⟩=some (.int .i64 x.frm):=hce 0 _ rfl;have h1:wr.cell? ⟨b,o+k * 2+1,none⟩=some (.int .i64 x.til):=hce 1 _ rfl;obtain⟨i1,i2,i3⟩:=mp.out x (gQ ae);have fp:decide (x.frm<0)=false:=afY;have lZ:decide (x.til<x.frm)=false:=afY;have J0:decide (20000000<x.til)=false:=afY;have bA:Hid (∀ o,Below w.heap.size w (wr.alloc o)):=jq (λo=>HB.out.alloc HB.out.size _);have du:b<wr.heap.size:=by omega
   obtain⟨fr,ti⟩:=x;clear bL hce ae i1 i2 i3;dsimp only at h0 h1 fp lZ J0;go_wp2_with fail;go_roundw
   case rel=>exact⟨k+1,by omega,by go_num,jq (bA.out _)⟩
   ·simp[intOf]<;>omega
  ·have nW:=jq (HD.out.keep gN HB.out);go_wp2_with fail;refine (beJ _ l bY (λs hs=>(mp.out s hs).2.1) _ ((nW.out.more mO ay))).mono ?_;rintro e w2 ⟨v2,rfl,l5,aa⟩;have bH:=jq l5;have ah:=jq (HB.out.trans (aa.mono ay));have aO:wr.heap.size<=w2.heap.size:=aa.size;clear l5 aa;obtain⟨A2,c2,rfl⟩:=bH.out.form;go_wp2_with fail;refine (bfX wr.heap.size _ l _ bH.out (by omega)).mono ?_;rintro e w3 ⟨rfl,ys,hp,hs,km,qQ⟩;have qT:ys.length=l.length:=hp.length_eq;have HY:Hid (ys.foldl Np.ga []=Np.eI l):=jq (Np.aTY (λs hs=>(mp.out s hs).2.1) hp hs);have lL:=jq km;have ai:Below wr.heap.size w2 w3:=(vQ _ _).grown qQ aO (λk hk=>(World.ownsRow.lt bH.out k hk).1);have aw:=jq (ah.out.trans (ai.mono ay));clear hp hs km qQ;go_wp2_with fail;refine (bmZ _ ys (by omega) _ (lL.out.slr (by omega))).mono ?_;rintro e w4 ⟨v4,rfl,jP,ar⟩;have HE:=jq (And.intro jP (aw.out.trans (ar.mono aw.out.size)));clear jP ar;go_wp2_with fail;go_ret2;exact⟨_,rfl,by have:=HE.out.1.weak aw.out.size;rw[HY.out] at this;exact this,HE.out.2⟩
structure SpBox(W:World)(b:Nat)(f u:Int):Prop where
 c0:W.cell? ⟨b,0,none⟩=some (.int .i64 f)
 c1:W.cell? ⟨b,1,none⟩=some (.int .i64 u)
 f0:W.frozen? ⟨b,0,none⟩=false
 f1:W.frozen? ⟨b,1,none⟩=false
 lt:b<W.heap.size
theorem SpBox.keep{W W':World}{b:Nat}{f u:Int}(h:SpBox W b f u){B:Nat}(hb:Below B W W')(hB:b<B):SpBox W' b f u:=
 ⟨(hb.cell hB).trans h.c0,(hb.cell hB).trans h.c1,(hb.frozen hB).trans h.f0,(hb.frozen hB).trans h.f1,lQ h.lt hb.size⟩
theorem aW.other{base:Nat}{W:World}{v:Value}{ps:List Np.Span}(h:aW base W v ps){p:Addr}(hp:p.block<base)(u:Value):aW base (W.setCell p u) v ps:=ownsRow_setCell_below h hp u
structure SpAt(W:World)(b j:Nat)(f u:Int):Prop where
 c0:W.cell? ⟨b,j,none⟩=some (.int .i64 f)
 c1:W.cell? ⟨b,j+1,none⟩=some (.int .i64 u)
theorem SpAt.keep{W W':World}{b j:Nat}{f u:Int}(h:SpAt W b j f u){B:Nat}(hb:Below B W W')(hB:b<B):SpAt W' b j f u:=⟨(hb.cell hB).trans h.c0,(hb.cell hB).trans h.c1⟩
theorem Gd{W:World}{B b o n c k:Nat}{l:List Np.Span}{x:Np.Span}(h:SlR fj 2 W B (.slice (some ⟨b,o,none⟩) n c) l)(hx:l[k]?=some x):b<B/\SpAt W b (o+k * 2) x.frm x.til:=by
 obtain⟨A',c',hA',_,_,bL⟩:=h
 cases hA'
 obtain⟨b',o',e,hA,b7,hlen,hce,hR⟩:=bL k _ hx
 cases hA
 obtain rfl:=hR;exact⟨b7,hce 0 _ rfl,hce 1 _ rfl⟩
theorem Lo{α:Type}{R:aiQ α}{sz:Nat}{W:World}{B:Nat}{A:Option Addr}{n c k:Nat}{l:List α}(h:SlR R sz W B (.slice A n c) l)(hk:k<l.length):∃ b o,A=some ⟨b,o,none⟩:=by
 obtain⟨A',c',hA',_,_,bL⟩:=h
 cases hA'
 obtain⟨b',o',e,hA,_⟩:=bL k _ (aQ hk);exact⟨b',o',hA⟩
structure WithK(X:Nat)(w W:World)(v:Value)(oo:List Np.Span)(fr ti:Int)(b j:Nat)(xf xu:Int):Prop where
 below:Below X w W
 own:aW (X+1) W v oo
 box:SpBox W X fr ti
 at_:SpAt W b j xf xu
theorem WithK.keep{X:Nat}{w W W':World}{v:Value}{oo:List Np.Span}{fr ti:Int}{b j:Nat}{xf xu:Int}(h:WithK X w W v oo fr ti b j xf xu)(hb:Below W.heap.size W W')(dK:b<X):WithK X w W' v oo fr ti b j xf xu:=
 ⟨h.below.trans (hb.mono (Nat.le_of_lt h.box.lt)),h.own.keep hb,h.box.keep hb h.box.lt,h.at_.keep hb (Nat.lt_trans dK h.box.lt)⟩
end
section
open Go.RowKit Go.MapKept Go.Shelf
theorem aOY{α β:Type}[BEq α][LawfulBEq α](l:List (α×β))(p:α)(h:l.lookup p=none):p∉l.map (·.1):=by
 induction l with
 | nil=>simp
 | cons z zs ih=>
  rw[List.lookup_cons] at h
  cases hb:(p == z.1) with
  | true=>rw[hb] at h;simp at h
  | false=>
   rw[hb] at h;have hne:p≠z.1:=by simpa using hb
   simp only[List.map_cons,List.mem_cons,not_or];exact⟨hne,ih h⟩
abbrev fh:=(Int×List UInt8)×List Np.Span×Value
structure MapX(base r:Nat)(xs:List fh)(w:World):Prop where
 map:oe r (xs.map λx=>(x.1,x.2.2)) w
 row:∀ x∈xs,aW base w x.2.2 x.2.1
 apart:∀ (i j:Nat) (x y:fh) (g:Nat),xs[i]?=some x->xs[j]?=some y->x.2.2.ownBlock=some g->y.2.2.ownBlock=some g->i=j
theorem MapX.keep{base r:Nat}{xs:List fh}{w w':World}(h:MapX base r xs w)(hb:Below w.heap.size w w'):MapX base r xs w':=⟨h.map.keep hb h.map.lt,λx hx=>(h.row x hx).keep hb,h.apart⟩
theorem MapX.made(base:Nat)(w:World):MapX base w.heap.size [] (w.alloc (.map #[] 0)):=⟨oe.made w,λx hx=>(by cases hx),λi j x y g h=>by simp at h⟩
theorem aW.turned{base r:Nat}{w w':World}{v:Value}{ps:List Np.Span}(h:aW base w v ps)(ht:Turned r w w')(hr:r<base):aW base w' v ps:=dS h (λg hg=>ht.block g (by have:=(h.lt g hg).1;omega))
theorem MapX.turned{base r I:Nat}{xs:List fh}{w w':World}(h:MapX base r xs w)(ht:Turned I w w')(hI:I≠r)(hrow:∀ x∈xs,x.2.2.ownBlock≠some I):MapX base r xs w':=
 ⟨h.map.keep' (ht.block r (Ne.symm hI)),λx hx=>dS (h.row x hx) (λg hg=>ht.block g (λe=>hrow x hx (by rw[hg,e]))),h.apart⟩
theorem MapX.changed{base r:Nat}{xs:List fh}{w w':World}(h:MapX base r xs w)(hr:r<base){j:Nat}{p:Int×List UInt8}{g g':List Np.Span}{v:Value}(hj:xs[j]?=some (p,g,v))(hg:w.grownBy w' v.ownBlock)(ho:aW base w' v g'):MapX base r (xs.set j (p,g',v)) w':=by
 have hv:=h.row _ (gQ hj);refine⟨?_,λx hx=>?_,λi i' x y b hx hy=>?_⟩
 ·have e:(xs.set j (p,g',v)).map (λx:fh=>(x.1,x.2.2))=xs.map λx=>(x.1,x.2.2):=by
   rw[List.map_set];apply List.ext_getElem?;intro i;rw[List.getElem?_set];split
   ·rename_i e;subst e;rw[List.length_map,Qb (cQ.1 hj).1,List.getElem?_map,hj];rfl
   ·rfl
  rw[e];refine h.map.keep' (hg.block r h.map.lt λe2=>?_)
  have:=(World.ownsRow.lt hv r e2.symm).1
  omega
 ·obtain⟨i,hi,rfl⟩:=nQ.1 hx;rw[List.length_set] at hi;rw[List.getElem_set];split
  ·exact ho
  ·rename_i hne;refine dS (h.row _ (List.getElem_mem hi)) λb hb=>hg.block b (World.ownsRow.lt (h.row _ (List.getElem_mem hi)) b hb).2 λe2=>hne ?_;exact h.apart j i _ _ b hj (aQ hi) e2.symm hb
 ·intro hb hb';have get:∀ (k:Nat) (z:fh),(xs.set j (p,g',v))[k]?=some z->∃ z',xs[k]?=some z'/\z'.2.2=z.2.2:=λk z hz=>by
   rw[List.getElem?_set] at hz;split at hz
   ·rename_i e;subst e;rw[Qb (cQ.1 hj).1] at hz
    cases hz
    exact⟨_,hj,rfl⟩
   ·exact⟨z,hz,rfl⟩
  obtain⟨x',hx',ex⟩:=get i x hx;obtain⟨y',hy',ey⟩:=get i' y hy;exact h.apart i i' x' y' b hx' hy' (by rw[ex];exact hb) (by rw[ey];exact hb')
theorem aKX(p:Int×List UInt8)(P:Program)(w:World):(Instr.keyThatStays (pH p) (pH p)).run P w = .ok (pH p) w:=by
 have h1:∀ a:ByteArray,(a == a)=true:=λa=>by
  show (a.data == a.data)=true;simp
 have:Instr.sameBits 10000 (pH p) (pH p)=true:=by
  rw[show (10000:Nat)=9998+1+1 from rfl];simp[Instr.sameBits,pH,aI,h1]
 simp[Instr.keyThatStays,this]
section
variable {ops:Array Oper} {rest:List Oper} {o:Oper} {a:Act} {Q:Exit->Act->World->Prop}
theorem bsY(w:World)(hg:o.guard=none)(m x:Operand)(iP:o.op=Op.mapEntry 184 m x)(base r:Nat)(xs:List fh)(hm:a.eval m = .map (some r))(hr:MapX base r xs w)(Cu:r<base)(p:Int×List UInt8)(hx:a.eval x=pH p)
 (hK:∀ (w':World) (j:Nat) (g:List Np.Span) (v:Value) (xs':List fh),((xs'=xs/\xs[j]?=some (p,g,v))\/(p∉xs.map (·.1)/\xs'=xs ++ [(p,[],.slice none 0 0)]/\j=xs.length/\g = []/\v = .slice none 0 0))->xs'[j]?=some (p,g,v)->MapX base r xs' w'->Turned r w w'->wpList prog ops Q rest (a.put o.dst (.tuple #[v,.int .i64 (j:Int)])) w'):wpList prog ops Q (o::rest) a w:=by
 obtain⟨es,hes,he,jJ⟩:=hr.map;have ht:=underlying184;have hl:r<w.heap.size:=(eQ.1 hes).1;have hf:=aaZ p w es.toList _ he;have hc:(Instr.checkKey false 10000 186 (pH p)).run prog w = .ok () w:=YU false p w;refine wpList_plain hg λK' hK'=>?_
 cases gh:(xs.map λx:fh=>(x.1,x.2.2)).lookup p with
 | some v=>
  obtain⟨j,j1,j2,hj⟩:=hf.1 v gh;obtain⟨e,gW,my⟩:=Option.map_eq_some_iff.1 j1;rw[Array.getElem?_toList] at gW;simp only[Prod.mk.injEq] at my;rw[List.getElem?_map] at j2;obtain⟨y,sN,oK⟩:=Option.map_eq_some_iff.1 j2;obtain⟨p',g,v'⟩:=y;simp only[Prod.mk.injEq] at oK;obtain⟨rfl,rfl⟩:=oK;have t6:(Instr.keyThatStays (((es[j]?).map (·.key)).getD (pH p')) (pH p')).run prog w = .ok (pH p') w:=by
   rw[gW];simp only[Option.map_some,Option.getD_some];rw[my.1];exact aKX _ _ w
  have av:((es[j]?).map (λx=>(x.born:Int))).getD 0=(j:Int):=by
   rw[gW];simp[jJ j e gW]
  have E5:(es.modify j λe=>{ e with key:=pH p' })=es:=by
   apply Array.ext_getElem?;intro i;rw[Array.getElem?_modify];split
   ·rename_i de;subst de;rw[gW];simp[<-my.1]
   ·rfl
  have cY:(Instr.mapEntry 184 (.map (some r)) (pH p')).run prog w = .ok (.tuple #[v',.int .i64 (j:Int)]) { w with heap:=w.heap.setIfInBounds r (.map es es.size) }:=by
   simp[Instr.mapEntry,run_underlying ht,MapKept.run_getObj_map hes,hc,hj,t6,MapKept.run_setObj_map _ hes,Result.andThen,E5,av,goInt]
  unfold Oper.wp;simp[execOp,iP,hm,hx,cY,Result.andThen];have lx:Turned r w { w with heap:=w.heap.setIfInBounds r (.map es es.size) }:=⟨rfl,rfl,rfl,by simp,λi hi=>by simp[Ne.symm hi]⟩;refine hK' _ _ (hK _ j g v' xs (.inl ⟨rfl,sN⟩) sN ⟨⟨es,by simp[hl],he,jJ⟩,λx hx=>(hr.row x hx).turned lx Cu,hr.apart⟩ lx)
 | none=>
  have hn:=hf.2 gh;have cY:(Instr.mapEntry 184 (.map (some r)) (pH p)).run prog w = .ok (.tuple #[.slice none 0 0,.int .i64 (es.size:Int)]) { w with heap:=w.heap.setIfInBounds r (.map (es.push { key:=pH p,val:=.slice none 0 0,born:=es.size }) (es.size+1)) }:=by
   simp[Instr.mapEntry,run_underlying ht,MapKept.run_getObj_map hes,hc,hn,MapKept.run_setObj_map _ hes,Result.andThen,goInt]
  have ay:es.size=xs.length:=by
   have:=Qd List.length he
   simpa using this
  have hni:p∉xs.map (·.1):=by
   have:=aOY _ _ gh
   rw[List.map_map] at this;exact this
  unfold Oper.wp;simp[execOp,iP,hm,hx,cY,Result.andThen];have lx:Turned r w { w with heap:=w.heap.setIfInBounds r (.map (es.push { key:=pH p,val:=.slice none 0 0,born:=es.size }) (es.size+1)) }:=⟨rfl,rfl,rfl,by simp,λi hi=>by simp[Ne.symm hi]⟩;refine hK' _ _ (hK _ es.size [] (.slice none 0 0) (xs ++ [(p,[],.slice none 0 0)]) (.inr ⟨hni,rfl,ay,rfl,rfl⟩) (by rw[ay];simp) ⟨⟨es.push { key:=pH p,val:=.slice none 0 0,born:=es.size },by simp[hl],by simp[he],λi e hi=>?_⟩,λx hx=>?_,λi j x y b hx hy cF ip=>?_⟩ lx)
  ·rw[Array.getElem?_push] at hi;split at hi
   ·rename_i h1;cases hi;exact h1.symm
   ·exact jJ i e hi
  ·rcases List.mem_append.1 hx with hx | hx
   ·exact (hr.row x hx).turned lx Cu
   ·rw[List.mem_singleton] at hx;subst hx;exact aW.nil _ _
  ·have get:∀ (k:Nat) (z:fh),(xs ++ [(p,[],Value.slice none 0 0)])[k]?=some z->z.2.2.ownBlock=some b->xs[k]?=some z:=λk z hz iz=>by
    rw[List.getElem?_append] at hz;split at hz
    ·exact hz
    ·have:=gQ hz
     rw[List.mem_singleton] at this;subst this;simp[Value.ownBlock] at iz
   exact hr.apart i j x y b (get i x hx cF) (get j y hy ip) cF ip
end
section
variable {ops:Array Oper} {rest:List Oper} {o:Oper} {a:Act} {Q:Exit->Act->World->Prop}
theorem Uj(w:World)(gX:o.guard=none)(s x:Operand)(ho:o.op = .call { callee:=.builtin .append,args:=#[s,x],argTypes:=#[55,55] })
 (base:Nat) (v:Value) (ps:List Np.Span) (hs:a.eval s=v) (hown:aW base w v ps) (blk:Nat) (f u:Int) (hx:a.eval x = .slice (some ⟨blk,0,none⟩) 1 1) (hc:w.cell? ⟨blk,0,none⟩=some (.int .i64 f)) (bw:w.cell? ⟨blk,1,none⟩=some (.int .i64 u)) (hlen:ps.length<=100000) (dM:base<=w.heap.size)
 (h:∀ v' w',aW base w' v' (ps ++ [⟨f,u⟩])->w.grownBy w' v.ownBlock->(v'.ownBlock=v.ownBlock\/v'.ownBlock=some w.heap.size)->wpList prog ops Q rest (a.put o.dst v') w'):wpList prog ops Q (o::rest) a w:=by
 obtain⟨i0,hi,dP,bF,aO⟩:=info_parts Tryz.infoSpan;refine wpList_append_own_at w gX s x 55 ho base 110 i0 (.agg #[.int .i64 0,.int .i64 0]) 2 16 underlying55 hi dP bF aO rfl (by decide) v ps.length (ps.map fP).flatten hs hown ⟨blk,0,none⟩ 1 1 [.int .i64 f,.int .i64 u] hx rfl ?_ (by simp[Value.oneCell']) (by unfold maxLen;omega) (by omega) dM ?_
 ·intro j y hj
  match j,hj with
  | 0,hj=>simp at hj;subst hj;simpa [Addr.add] using hc
  | 1,hj=>simp at hj;subst hj;simpa [Addr.add] using bw
  | j+2,hj=>simp at hj
 ·intro v' w' ho' hg _ hat;refine h v' w' ?_ hg hat;have e:(ps ++ [(⟨f,u⟩:Np.Span)]).length=ps.length+1:=by simp
  unfold aW;rw[e,List.map_append,List.flatten_append];exact ho'
theorem bsX(w w0:World)(gX:o.guard=none)(m s x:Operand)(iP:o.op=Op.entryStore 184 m s x)(base r:Nat)(xs:List fh)(hX:MapX base r xs w0)(Cu:r<base)(j:Nat)(p:Int×List UInt8)(g g':List Np.Span)(v v':Value)
 (hj:xs[j]?=some (p,g,v)) (hg:w0.grownBy w v.ownBlock) (ho:aW base w v' g') (hat:v'.ownBlock=v.ownBlock\/v'.ownBlock=some w0.heap.size) (hm:a.eval m = .map (some r)) (hs:a.eval s = .int .i64 (j:Int)) (hx:a.eval x=v')
 (hK:∀ w',MapX base r (xs.set j (p,g',v')) w'->Turned r w w'->wpList prog ops Q rest (a.put o.dst undef) w'):wpList prog ops Q (o::rest) a w:=by
 obtain⟨es,Qk,he,jJ⟩:=hX.map;have t8:r<w0.heap.size:=(eQ.1 Qk).1;have hv:=hX.row _ (gQ hj);have hes:w.heap[r]?=some (.map es es.size):=(hg.block r t8 (λe2=>by have:=(World.ownsRow.lt hv r e2.symm).1;omega)).trans Qk;have hl:r<w.heap.size:=(eQ.1 hes).1;have ay:es.size=xs.length:=by
  have:=Qd List.length he
  simpa using this
 have nw:j<xs.length:=(cQ.1 hj).1;have hfi:es.findIdx? (λe=>(e.born:Int) == (j:Int))=some j:=by
  rw[Array.findIdx?_eq_some_iff_getElem];refine⟨by omega,?_,λi hi=>?_⟩
  ·have:=jJ j _ (pQ (by omega))
   simp[this]
  ·have:=jJ i _ (pQ (by omega))
   simp[this];omega
 refine wpList_plain gX λK' hK'=>?_;have cY:(Instr.entryStore 184 (.map (some r)) (.int .i64 (j:Int)) v').run prog w = .ok () { w with heap:=w.heap.setIfInBounds r (.map (es.modify j λe=>{ e with val:=v' }) es.size) }:=by
  simp[Instr.entryStore,MapKept.run_getObj_map hes,hfi,asInt,asIntOf,MapKept.run_setObj_map _ hes,Result.andThen]
 unfold Oper.wp;simp[execOp,iP,hm,hs,hx,cY,Result.andThen];have lx:Turned r w { w with heap:=w.heap.setIfInBounds r (.map (es.modify j λe=>{ e with val:=v' }) es.size) }:=⟨rfl,rfl,rfl,by simp,λi hi=>by simp[Ne.symm hi]⟩;refine hK' _ _ (hK _ ⟨⟨es.modify j λe=>{ e with val:=v' },by simp[hl],?_,λi e hi=>?_⟩,λy hy=>?_,λi i' y y' b hy hy' hb hb'=>?_⟩ lx)
 ·apply List.ext_getElem?;intro i;have hi:=Qd (λl=>l[i]?) he;simp only[List.getElem?_map,Array.getElem?_toList] at hi |-;rw[Array.getElem?_modify,List.getElem?_set];by_cases de:j=i
  ·subst de;rw[hj] at hi;rw[Qb rfl,Qb rfl,Qb nw];obtain⟨e,gW⟩:∃ e,es[j]?=some e:=⟨_,pQ (by omega)⟩;rw[gW] at hi |-;simp at hi |-;exact hi.1
  ·rw[Qc de,Qc de];simpa using hi
 ·rw[Array.getElem?_modify] at hi;split at hi
  ·rename_i de;subst de;obtain⟨e',he',rfl⟩:=Option.map_eq_some_iff.1 hi;exact jJ j e' he'
  ·exact jJ i e hi
 ·obtain⟨i,hi,rfl⟩:=nQ.1 hy;rw[List.length_set] at hi;rw[List.getElem_set];split
  ·exact ho.turned lx Cu
  ·rename_i hne;have h1:=hX.row _ (List.getElem_mem hi);have h2:aW base w xs[i].2.2 xs[i].2.1:=dS h1 λb hb=>hg.block b (World.ownsRow.lt h1 b hb).2 λe2=>hne (hX.apart j i _ _ b hj (aQ hi) e2.symm hb);exact h2.turned lx Cu
 ·have get:∀ (k:Nat) (z:fh),(xs.set j (p,g',v'))[k]?=some z->(k=j/\z=(p,g',v'))\/(k≠j/\xs[k]?=some z):=λk z hz=>by
   rw[List.getElem?_set] at hz;split at hz
   ·rename_i e;subst e
    first
     | (rw[Qb nw] at hz;cases hz;exact .inl ⟨rfl,rfl⟩)
     | (cases hz;exact .inl ⟨rfl,rfl⟩)
   ·rename_i e;exact .inr ⟨λe2=>e e2.symm,hz⟩
  have clash:∀ (k:Nat) (z:fh),k≠j->xs[k]?=some z->z.2.2.ownBlock=some b->v'.ownBlock=some b->False:=λk z hk hz iz me=>by
   rcases hat with h1 | h1
   ·rw[me] at h1;exact hk (hX.apart k j _ _ b hz hj iz h1.symm)
   ·rw[me] at h1
    have:=(World.ownsRow.lt (hX.row _ (gQ hz)) b iz).2
    simp at h1;omega
  rcases get i y hy with ⟨e1,rfl⟩ | ⟨e1,h1⟩
  ·rcases get i' y' hy' with ⟨e2,rfl⟩ | ⟨e2,h2⟩
   ·rw[e1,e2]
   ·exact (clash i' y' e2 h2 hb' hb).elim
  ·rcases get i' y' hy' with ⟨e2,rfl⟩ | ⟨e2,h2⟩
   ·exact (clash i y e1 h1 hb hb').elim
   ·exact hX.apart i i' y y' b h1 h2 hb hb'
structure RangeX(base r I:Nat)(xs:List fh)(seen:Array Nat)(w:World):Prop where
 mapX:MapX base r xs w
 iter:w.heap[I]?=some (.mapIter (some r) xs.length seen xs.length)
 row:∀ x∈xs,x.2.2.ownBlock≠some I
theorem RangeX.ne{base r I:Nat}{xs:List fh}{seen:Array Nat}{w:World}(h:RangeX base r I xs seen w):I≠r:=by
 obtain⟨es,h1,_⟩:=h.mapX.map;intro e
 have:=h.iter
 rw[e,h1] at this
 cases this
theorem RangeX.lt{base r I:Nat}{xs:List fh}{seen:Array Nat}{w:World}(h:RangeX base r I xs seen w):I<w.heap.size:=(eQ.1 h.iter).1
theorem RangeX.keep{base r I:Nat}{xs:List fh}{seen:Array Nat}{w w':World}(h:RangeX base r I xs seen w)(hb:Below w.heap.size w w'):RangeX base r I xs seen w':=⟨h.mapX.keep hb,(hb.block I h.lt).trans h.iter,h.row⟩
theorem RangeX.changed{base r I:Nat}{xs:List fh}{seen:Array Nat}{w w':World}(h:RangeX base r I xs seen w)(hr:r<base){j:Nat}{p:Int×List UInt8}{g g':List Np.Span}{v:Value}(hj:xs[j]?=some (p,g,v))(hg:w.grownBy w' v.ownBlock)(ho:aW base w' v g'):RangeX base r I (xs.set j (p,g',v)) seen w':=by
 have hv:=h.row _ (gQ hj);refine⟨h.mapX.changed hr hj hg ho,?_,λx hx=>?_⟩
 ·rw[List.length_set];exact (hg.block I h.lt (λe=>hv e.symm)).trans h.iter
 ·obtain⟨i,hi,rfl⟩:=nQ.1 hx;rw[List.length_set] at hi;rw[List.getElem_set];split
  ·exact hv
  ·exact h.row _ (List.getElem_mem hi)
theorem MapX.size{base r:Nat}{xs:List fh}{w:World}(h:MapX base r xs w):∃ es,w.heap[r]?=some (.map es xs.length)/\es.size=xs.length/\es.toList.map (λe=>(e.key,e.val))=(xs.map λx=>(x.1,x.2.2)).map (λp=>(pH p.1,p.2))/\∀ (i:Nat) (e:MapEntry),es[i]?=some e->e.born=i:=by
 obtain⟨es,h1,h2,h3⟩:=h.map;have ay:es.size=xs.length:=by
  have:=Qd List.length h2
  simpa using this
 exact⟨es,by rw[<-ay];exact h1,ay,h2,h3⟩
theorem btZ(w:World)(hg:o.guard=none)(m:Operand)(iP:o.op=Op.range 184 m)(base r:Nat)(xs:List fh)(hm:a.eval m = .map (some r))(hX:MapX base r xs w)
 (hK:∀ w',RangeX base r w.heap.size xs #[] w'->Below w.heap.size w w'->w'.heap.size=w.heap.size+1->wpList prog ops Q rest (a.put o.dst (.pointer (some ⟨w.heap.size,0,none⟩))) w'):wpList prog ops Q (o::rest) a w:=by
 obtain⟨es,hes,ay,_⟩:=hX.size;have cY:=run_range_map (P:=prog) w 184 _ _ r es xs.length underlying184 hes;refine wpList_plain hg λK' hK'=>?_;unfold Oper.wp;simp[execOp,iP,hm,cY,Result.andThen];have hb:Below w.heap.size w (w.alloc (.mapIter (some r) xs.length #[] xs.length)):=blAl;refine hK' _ _ (hK _ ⟨hX.keep hb,heap_alloc_new _ _,λx hx e=>?_⟩ hb (by simp))
 have:=(World.ownsRow.lt (hX.row x hx) _ e).2
 omega
theorem Te{w w':World}{r I:Nat}(h1:w'.heap[r]?=w.heap[r]?)(h2:w'.heap[I]?=w.heap[I]?):w'.rangeLeft r I=w.rangeLeft r I:=by
 unfold World.rangeLeft;rw[h1,h2]
theorem btQ(w:World)(hg:o.guard=none)(it:Operand)(iP:o.op=Op.next it false)(base r I:Nat)(xs:List fh)(seen:Array Nat)(hit:a.eval it = .pointer (some ⟨I,0,none⟩))(h:RangeX base r I xs seen w)
 (afX:(∀ j,j<xs.length->seen.contains j=true)->wpList prog ops Q rest (a.put o.dst (.tuple #[.bool false])) w)
 (agJ:∀ (j:Nat) (p:Int×List UInt8) (g:List Np.Span) (v:Value) (w':World),xs[j]?=some (p,g,v)->RangeX base r I xs (seen.push j) w'->Turned I w w'->w'.rangeLeft r I<w.rangeLeft r I->(Instr.entry (.pointer (some ⟨I,0,none⟩))).run prog w' = .ok (.tuple #[pH p,v]) w'->wpList prog ops Q rest (a.put o.dst (.tuple #[.bool true,pH p,v])) w') :
 wpList prog ops Q (o::rest) a w:=by
 have hne:=h.ne;obtain⟨es,hes,ay,he,jJ⟩:=h.mapX.size;have hold:∀ x∈es.toList,x.born<xs.length:=λx hx=>by
  obtain⟨i,hi,rfl⟩:=nQ.1 hx;have hi':i<es.size:=by simpa using hi
  have:=jJ i es[i] (pQ hi')
  simp only[Array.getElem_toList];omega
 refine wpList_plain hg λK' hK'=>?_;unfold Oper.wp;rcases run_next_at (P:=prog) w o.type I r xs.length xs.length seen es xs.length h.iter hes hold (bQ _) with ⟨h0,cY⟩ | ⟨e,wK,w1,iN,cY⟩
 ·simp[execOp,iP,hit,cY,Result.andThen];refine hK' _ _ (afX λj hj=>?_);have h1:=all_seen es seen h0 es[j] (by simp);rwa [jJ j es[j] (pQ (by omega))] at h1
 ·obtain⟨hem,bFY⟩:=mem_left wK;obtain⟨j,hj,sf⟩:=nQ.1 hem;have hj':j<es.size:=by simpa using hj
  have Qy:es[j]?=some e:=by rw[pQ hj',<-sf];simp
  have tO:=jJ j e Qy;obtain⟨⟨p,g,v⟩,hx⟩:∃ x,xs[j]?=some x:=⟨_,aQ (by omega)⟩;have hkv:e.key=pH p/\e.val=v:=by
   have hi:=Qd (λl=>l[j]?) he;simp only[List.getElem?_map,Array.getElem?_toList] at hi;rw[Qy,hx] at hi;simpa using hi
  obtain⟨ck,lk⟩:=hkv;rw[tO] at cY;have gJ:w1.heap[I]?=some (.mapIter (some r) xs.length seen xs.length):=by rcases iN with rfl | rfl<;>exact h.iter
  have Jp:I<w1.heap.size:=(eQ.1 gJ).1;have av:w1.heap[r]?=some (.map es xs.length):=by rcases iN with rfl | rfl<;>exact hes
  have aM:Below w.heap.size w w1:=by rcases iN with rfl | rfl;exact vQ _ _;exact (vQ _ _).drew
  have uk:w1.heap.size=w.heap.size:=by rcases iN with rfl | rfl<;>rfl
  obtain⟨w2,aj⟩:=afZ (Go.ChangeMaps.setBlock w1 I (.mapIter (some r) xs.length (seen.push j) xs.length));have wn:w2.heap[I]?=some (.mapIter (some r) xs.length (seen.push j) xs.length):=by rw[<-aj];simp[Go.ChangeMaps.setBlock,Jp]
  have QS:∀ i,i≠I->w2.heap[i]?=w1.heap[i]?:=λi hi=>by rw[<-aj];simp[Go.ChangeMaps.setBlock,Ne.symm hi]
  have be:w1.heap=w.heap:=by rcases iN with rfl | rfl<;>rfl
  have lx:Turned I w w2:=⟨by rw[<-aj];exact aM.os,by rw[<-aj];exact aM.tape,by rw[<-aj];exact aM.output,by rw[<-aj];simp[Go.ChangeMaps.setBlock,uk],λi hi=>by rw[QS i hi,be]⟩;have aa:w2.heap[r]?=some (.map es xs.length):=(QS r (Ne.symm hne)).trans av;rw[aj] at cY;simp[execOp,iP,hit,cY,Result.andThen];rw[ck,lk];refine hK' _ _ (agJ j p g v w2 hx ⟨h.mapX.turned lx hne h.row,wn,h.row⟩ lx ?_ ?_)
  ·have:=left_shrinks es seen e wK
   rw[tO] at this;unfold World.rangeLeft;rw[aa,wn,hes,h.iter];exact this
  ·have sw:(es.toList.map (·.born)).Nodup:=by
    rw[List.nodup_iff_pairwise_ne,List.pairwise_iff_getElem];intro i k hi hk hik;have hi':i<es.size:=by simpa using hi
    have hk':k<es.size:=by simpa using hk
    have h1:=jJ i es[i] (pQ hi');have h2:=jJ k es[k] (pQ hk');simp only[List.getElem_map,Array.getElem_toList];omega
   have:=run_entry_at (P:=prog) w2 I r xs.length seen es xs.length e (by rw[tO];exact wn) aa hem sw
   rw[ck,lk] at this;exact this
end
end
section
open Go.RowKit Go.Sort Go.Shelf
def Np.Ux(l:List Np.Span):Prop:=∀ s∈l,s.frm<s.til
theorem aSJ(f u f' u':Int)(w:World):(binOp .neq 110 (.agg #[.int .i64 f,.int .i64 u]) (.agg #[.int .i64 f',.int .i64 u'])).run prog w = .ok (.bool (decide ((⟨f,u⟩:Np.Span)≠⟨f',u'⟩))) w:=by
 have u3:=underlying3;have a3:=isAgg3;have z3:=sizeOf3;have hS:prog.underlying 110=some (.struct (prog.fieldsOf 110)):=by kernel_rfl
 have hp:prog.stoodInHeld 110=false:=by kernel_rfl
 rw[run_neq_struct,show (10000:Nat)=9999+1 from rfl,run_equalIn_agg w 9999 110 _ _ hS hp];simp only[Program.fieldsOf,underlying110];go_simp;by_cases h1:f=f'<;>by_cases h2:u=u'<;>simp[h1,h2]
theorem Lk(v v':Value)(l m:List Np.Span)(w:World)(h:SlR fj 2 w w.heap.size v l)(h':SlR fj 2 w w.heap.size v' m) :
 Calls prog 21 #[v,v'] w (λe w'=>e = .returned (.bool (decide (l=m)))/\Below w.heap.size w w'):=by
 have HL:=jq h;have HM:=jq h';obtain⟨A,c,rfl,bw,bT⟩:=ak h;obtain⟨A',c',rfl,amK,E2⟩:=ak h';clear h h';by_cases hlen:l.length=m.length
 ·have yf:=jq hlen;obtain⟨n,hn⟩:=afZ m.length;rw[hn] at amK E2 hlen;have HN:=jq hn;rw[hlen] at bw bT;rw[hn,hlen];have DK:=jq hlen;clear hlen hn;go_enter func21,ntmps21;go_wp2_with fail;go_loopw [5] (λi wr=>∃ (k:Nat),k<=n/\i = .int .i64 k/\Hid (Below w.heap.size w wr)/\Hid (l.take k=m.take k)) (λi _=>n - (intOf i).toNat)
  case atStart=>exact⟨0,jQ _,rfl,jq (vQ _ _),jq rfl⟩
  case round=>
   obtain⟨k,hk,rfl,HB,HT⟩:=hrel;have ay:=HB.out.size;by_cases ab:k<n
   ·have QB:=DK.out;have QI:=HN.out;obtain⟨x,hx⟩:∃ x,l[k]?=some x:=⟨_,aQ (by omega)⟩;obtain⟨y,hy⟩:∃ y,m[k]?=some y:=⟨_,aQ (by omega)⟩;have nW:=HL.out.keep gN HB.out;have Dv:=HM.out.keep gN HB.out;rw[QB] at nW;rw[QI] at Dv;obtain⟨b,o,rfl⟩:=Lo (k:=k) nW (by omega);obtain⟨b',o',rfl⟩:=Lo (k:=k) Dv (by omega);obtain⟨b7,hat⟩:=Gd nW hx;obtain⟨tP,yL⟩:=Gd Dv hy;have h0:=hat.c0;have h1:=hat.c1;have h0':=yL.c0;have h1':=yL.c1;have mV:Hid (x=y->l.take (k+1)=m.take (k+1)):=jq (λe=>by
     obtain⟨q1,q2⟩:=cQ.1 hx;obtain⟨q3,q4⟩:=cQ.1 hy;rw[fQ q1,fQ q3,q2,q4,HT.out,e])
    have jZ:Hid (x≠y->decide (l=m)=false):=jq (λe=>tQ (by rintro rfl;rw[hx] at hy;exact e (by simpa using hy)));have cj:(0:Int)<=(k:Int):=by omega
    have ck:(k:Int)<(n:Int):=by omega
    have heq:=aSJ x.frm x.til y.frm y.til;clear nW Dv hat yL hx hy QB QI;by_cases cH:x=y
    ·have HX:=jq (mV.out cH);have kx:decide ((⟨x.frm,x.til⟩:Np.Span)≠⟨y.frm,y.til⟩)=false:=by rw[cH];simp
     rw[kx] at heq;clear kx cH;go_wp2_with fail;go_quiet (fail);go_wp2_with fail;go_roundw
     case rel=>exact⟨k+1,by omega,by go_num,jq (below_drewN HB.out _),HX⟩
     ·simp[intOf]<;>omega
    ·have HX:=jq (jZ.out cH);have kx:decide ((⟨x.frm,x.til⟩:Np.Span)≠⟨y.frm,y.til⟩)=true:=uQ cH;rw[kx] at heq;clear kx cH;go_wp2_with fail;go_quiet (fail);go_wp2_with fail;go_ret;exact⟨ag HX.out.symm,below_drewN HB.out _⟩
   ·have HE:Hid (decide (l=m)=true):=jq (uQ (by
     have:=HT.out
     rwa [kQ (by have:=DK.out;omega),kQ (by have:=HN.out;omega)] at this))
    go_wp2_with fail;go_ret;exact⟨ag HE.out.symm,HB.out⟩
 ·have hne:(l.length:Int)≠(m.length:Int):=by omega
  have hd:decide ((l.length:Int)=(m.length:Int))=false:=tQ hne;have HE:Hid (decide (l=m)=false):=jq (tQ (by rintro rfl;exact hlen rfl));have hb:((l.length:Int) == (m.length:Int))=false:=by simpa using hne
  go_enter func21,ntmps21;go_wp2_with fail;go_ret;exact⟨ag HE.out.symm,vQ _ _⟩
end
end Go.Proofs.YtfnopgdcaanaiaaGreatDoor
