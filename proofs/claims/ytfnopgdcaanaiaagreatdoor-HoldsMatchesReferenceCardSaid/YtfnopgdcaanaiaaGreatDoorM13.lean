/- Parts of the proof. No condition. -/
import Derived.Test.YtfnopgdcaanaiaaGreatDoorM06
import Derived.Test.YtfnopgdcaanaiaaGreatDoorM08
set_option linter.all false
set_option maxRecDepth 100000
set_option maxHeartbeats 8000000
namespace Go.Proofs.YtfnopgdcaanaiaaGreatDoor
open Go.Proofs.Tryz
section
open Go.RowKit Go.Sort Go.Shelf
section
variable {α:Type} [Inhabited α]
theorem IY(enc:α->List Value)(k:Nat)(hk:∀ x,(enc x).length=k)(h0:0<k)(xs:List α):(flatK enc k xs.toArray).toList=(xs.map enc).flatten:=by
 have hlen:(xs.map enc).flatten.length=xs.length * k:=by
  clear h0
  induction xs with
  | nil=>simp
  | cons y ys ih=>rw[List.map_cons,List.flatten_cons,List.length_append,ih,hk,List.length_cons,Nat.succ_mul];omega
 apply List.ext_getElem?;intro t;by_cases ht:t<xs.length * k
 ·have h1:t / k<xs.length:=(Nat.div_lt_iff_lt_mul h0).2 ht;have h2:t % k<k:=Nat.mod_lt _ h0;have hr:(xs.map enc)[t / k]?=some (enc xs[t / k]):=by simp[h1]
  have hu:(enc xs[t / k])[t % k]?=some ((enc xs[t / k])[t % k]'(by rw[hk];exact h2)):=aQ _;have h3:=Ee (xs.map enc) (t / k) (t % k) _ _ (by intro r hr;obtain⟨x,_,rfl⟩:=List.mem_map.1 hr;exact hk x) hr hu;rw[show t / k * k+t % k=t by rw[Nat.mul_comm];exact Nat.div_add_mod t k] at h3;rw[h3];have hs:t<(flatK enc k xs.toArray).size:=by simpa using ht
  rw[Array.getElem?_toList,pQ hs];congr 1;have h4:=get_flatK enc k xs.toArray t (by simpa using ht);rw[getElem!_pos (flatK enc k xs.toArray) t hs] at h4;rw[h4];rw[getElem!_pos xs.toArray (t / k) (by simpa using h1)];rw[getElem!_pos _ (t % k) (by rw[hk];exact h2)];simp
 ·rw[List.getElem?_eq_none (by simp;omega),List.getElem?_eq_none (by rw[hlen];omega)]
theorem Zs(enc:α->List Value)(k:Nat)(hk:∀ x,(enc x).length=k)(h0:0<k){w:World}{g:Nat}{cur:Array Value}{e:TypeId}{xs:List α}(hb:w.heap[g]?=some (.cells cur e (0,0)))(ht:cur.toList.take (xs.length * k)=(xs.map enc).flatten):HoldsK enc k w g 0 xs.toArray:=by
 intro j hj;have hj':j<xs.length * k:=by simpa using hj
 refine⟨?_,by simp[World.frozen?,hb]⟩;have h1:(cur.toList.take (xs.length * k))[j]?=(flatK enc k xs.toArray).toList[j]?:=by rw[ht,IY enc k hk h0]
 rw[List.getElem?_take_of_lt hj'] at h1;simp only[World.cell?,hb,Nat.zero_add,Option.isSome_none,Bool.false_eq_true,if_false];rw[<-Array.getElem?_toList,h1];have hs:j<(flatK enc k xs.toArray).size:=by simpa using hj'
 rw[Array.getElem?_toList,pQ hs,getElem!_pos _ j hs];rfl
theorem YL(enc:α->List Value)(k:Nat){w:World}{g n:Nat}{os:Array Obj}{cur:Array Value}{e:TypeId}{fr:Nat×Nat}(d:Array α)(hb:w.heap[g]?=some (.cells cur e fr)) :
 (sortWorldK enc k w g 0 n d os).heap[g]?=some (.cells (putCells id 0 (flatK enc k d) cur) e fr):=by
 have hl:g<w.heap.size:=(eQ.1 hb).1;unfold sortWorldK putRowK;rw[heap_grow_old _ _ (by simpa [putRow,mapBlock,Sort.ahead] using hl)];simp[putRow,mapBlock,Sort.ahead,Array.getElem?_modify,hb,onCells]
theorem XN(enc:α->List Value)(k:Nat){w:World}{g n:Nat}{os:Array Obj}(d:Array α):w.grownBy (sortWorldK enc k w g 0 n d os) (some g):=by
 unfold sortWorldK putRowK;refine⟨rfl,rfl,rfl,by simp,λq hq hne=>?_⟩;rw[heap_grow_old _ _ (by simpa using hq)]
 have:g≠q:=λe=>hne (by rw[e])
 simp[putRow,mapBlock,Sort.ahead,Array.getElem?_modify,this]
theorem arZ(enc:α->List Value)(k:Nat)(hk:∀ x,(enc x).length=k)(h0:0<k){w:World}{base g cap n:Nat}{e:TypeId}{os:Array Obj}{cur:Array Value}{xs ys:List α}(hl:ys.length=xs.length)(fh:base<=g)(hb:w.heap[g]?=some (.cells cur e (0,0)))
 (h1:xs.length<=cap) (h2:cap<=maxLen) (h3:cur.size=cap * k) :
 (sortWorldK enc k w g 0 n ys.toArray os).ownsRow base e k (.slice (some ⟨g,0,none⟩) xs.length cap) xs.length (ys.map enc).flatten:=by
 have zd:(ys.map enc).flatten.length=ys.length * k:=by
  rw[<-IY enc k hk h0 ys];simp
 have ie:ys.length * k<=cur.size:=by rw[h3];exact Nat.mul_le_mul_right k (by omega)
 refine⟨by rw[zd,hl],.inr ⟨g,cap,_,rfl,fh,YL enc k _ hb,h1,h2,by simp[putCells,h3],?_⟩⟩;rw[<-hl];apply List.ext_getElem?;intro j;by_cases hj:j<ys.length * k
 ·rw[List.getElem?_take_of_lt hj,Array.getElem?_toList,<-IY enc k hk h0 ys];have hs:j<(flatK enc k ys.toArray).size:=by simpa using hj
  rw[Array.getElem?_toList,pQ hs];have un:j<cur.size:=by omega
  simp[putCells,hj,un]
 ·rw[List.getElem?_take_eq_none (by omega),List.getElem?_eq_none (by rw[zd];omega)]
end
def gE(s:Np.Span):List Value:=[.int .i64 s.frm,.int .i64 s.til]
def aJ(base:Nat)(w:World)(v:Value)(ps:List Np.Span):Prop:=w.ownsRow base 110 2 v ps.length (ps.map gE).flatten
theorem aJ.form{base:Nat}{w:World}{v:Value}{ps:List Np.Span}(h:aJ base w v ps):∃ A c,v = .slice A ps.length c:=zH h
theorem aJ.alloc{base:Nat}{w:World}{v:Value}{ps:List Np.Span}(h:aJ base w v ps)(o:Obj):aJ base (w.alloc o) v ps:=World.ownsRow.alloc h o
theorem aJ.keep{base:Nat}{w w':World}{v:Value}{ps:List Np.Span}(h:aJ base w v ps)(hb:Below w.heap.size w w'):aJ base w' v ps:=gN h (λg hg=>hb.block g (h.lt g hg).2)
theorem aJ.nil(base:Nat)(w:World):aJ base w (.slice none 0 0) []:=⟨by simp,.inl ⟨rfl,rfl⟩⟩
theorem aJ.slr{base:Nat}{w:World}{v:Value}{ps:List Np.Span}(h:aJ base w v ps)(hl:ps.length<=140737488355328):SlR cT 2 w w.heap.size v ps:=by
 refine Li (sz:=2) (e:=110) (base:=base) gE (λ_ _=>rfl) ?_ hl (λx hx=>rfl)
 have:w.ownsRow base 110 2 v ps.length (ps.map gE).flatten:=h
 rwa [<-List.flatMap_def] at this
theorem Tryz.infoSpan:(prog.info? 110).map (λi=>(i.zero,i.size,i.bytes))=some (some (.agg #[.int .i64 0,.int .i64 0]),2,16):=by kernel_rfl
section
variable {ops:Array Oper} {rest:List Oper} {o:Oper} {a:Act} {Q:Exit->Act->World->Prop}
theorem tw(w:World)(js:o.guard=none)(s x:Operand)(ho:o.op = .call { callee:=.builtin .append,args:=#[s,x],argTypes:=#[55,55] })
 (base:Nat) (v:Value) (ps:List Np.Span) (hs:a.eval s=v) (hown:aJ base w v ps) (blk:Nat) (f u:Int) (hx:a.eval x = .slice (some ⟨blk,0,none⟩) 1 1) (hc:w.cell? ⟨blk,0,none⟩=some (.int .i64 f)) (bq:w.cell? ⟨blk,1,none⟩=some (.int .i64 u)) (hlen:ps.length<=100000) (fh:base<=w.heap.size)
 (h:∀ v' w',aJ base w' v' (ps ++ [⟨f,u⟩])->Below base w w'->wpList prog ops Q rest (a.put o.dst v') w'):wpList prog ops Q (o::rest) a w:=by
 obtain⟨i0,hi,fk,bd,aN⟩:=info_parts Tryz.infoSpan;refine wpList_append_own_at w js s x 55 ho base 110 i0 (.agg #[.int .i64 0,.int .i64 0]) 2 16 underlying55 hi fk bd aN rfl (by decide) v ps.length (ps.map gE).flatten hs hown ⟨blk,0,none⟩ 1 1 [.int .i64 f,.int .i64 u] hx rfl ?_ (by simp[Value.oneCell']) (by unfold maxLen;omega) (by omega) fh ?_
 ·intro j y hj
  match j,hj with
  | 0,hj=>simp at hj;subst hj;simpa [Addr.add] using hc
  | 1,hj=>simp at hj;subst hj;simpa [Addr.add] using bq
  | j+2,hj=>simp at hj
 ·intro v' w' ho' hg _ _;refine h v' w' ?_ ((vQ _ _).grown hg fh (λk hk=>(hown.lt k hk).1));have e:(ps ++ [(⟨f,u⟩:Np.Span)]).length=ps.length+1:=by simp
  unfold aJ;rw[e,List.map_append,List.flatten_append];exact ho'
end
theorem XE(f u:Int)(w:World) :
 Calls prog 177 #[.agg #[.int .i64 f,.int .i64 u]] w (a0X w.heap.size w (.bool (decide (f<u)))):=by
 have HB:Hid (∀ o,Below w.heap.size w (w.alloc o)):=jq (λo=>(vQ _ w).alloc (bQ _) _);go_enter func177,ntmps177;go_wp2_with fail;go_ret;exact⟨rfl,HB.out _⟩
theorem aKX(v:Value)(l:List Np.Span)(bW:l.length<=20000)(hf:∀ s∈l,s.frm<s.til)(w:World)(h:SlR cT 2 w w.heap.size v l) :
 Calls prog 176 #[v,.func (.func 177) #[] #[]] w λe w'=>∃ v',e = .returned v'/\aJ w.heap.size w' v' l/\Below w.heap.size w w':=by
 have HD:=jq h;have HF:=jq hf;obtain⟨A,c,rfl,bq,bM⟩:=ak h;clear h hf;have HE:=jq (enters_of func177 (by kernel_rfl) rfl);go_enter func176,ntmps176;go_wp2_with fail;go_loopw [5,10] (λvo i wr=>∃ (k:Nat),k<=l.length/\i = .int .i64 k/\Hid (Below w.heap.size w wr)/\Hid (aJ w.heap.size wr vo (l.take k))) (λ_ i _=>l.length - (intOf i).toNat)
 case atStart=>exact⟨0,jQ _,rfl,jq (vQ _ _),jq (aJ.nil _ _)⟩
 case round=>
  obtain⟨k,hk,rfl,HB,HO⟩:=hrel;have an:=HB.out.size;by_cases ab:k<l.length
  ·obtain⟨x,aa⟩:∃ x,l[k]?=some x:=⟨_,aQ ab⟩;obtain⟨A',c',hA',_,_,bU⟩:=HD.out.keep eE HB.out
   cases hA'
   obtain⟨b,o,e,rfl,bB,hlen,hce,hR⟩:=bU k _ aa;obtain rfl:=hR;have h0:wr.cell? ⟨b,o+k * 2,none⟩=some (.int .i64 x.frm):=hce 0 _ rfl;have h1:wr.cell? ⟨b,o+k * 2+1,none⟩=some (.int .i64 x.til):=hce 1 _ rfl;have hd:decide (x.frm<x.til)=true:=uQ (HF.out x (gQ aa));have HT:Hid (l.take (k+1)=l.take k ++ [x]):=jq (by
    obtain⟨hl,he⟩:=cQ.1 aa;rw[fQ hl,he])
   have HL:Hid ((l.take k).length<=100000):=jq (by rw[List.length_take];omega);obtain⟨f,u⟩:=x;have dK:b<wr.heap.size:=by omega
   clear bU hce aa;dsimp only at h0 h1 hd;have aY:Hid (∀ o,Below w.heap.size w (wr.alloc o)):=jq (λo=>HB.out.alloc HB.out.size _);go_wp2_with (fail);refine (XE f u _).mono ?_;rintro e w2 ⟨rfl,ac⟩;rw[hd];have ai:Hid (Below w.heap.size w w2):=jq ((aY.out _).trans (ac.mono (by simp;omega)));have eS:Hid (aJ w.heap.size w2 u5 (l.take k)):=jq ((HO.out.alloc _).keep ac);have c0:w2.cell? ⟨wr.heap.size,0,none⟩=some (.int .i64 f):=by rw[ac.cell (by simp)];simp[go_sem]
   have c1:w2.cell? ⟨wr.heap.size,1,none⟩=some (.int .i64 u):=by rw[ac.cell (by simp)];simp[go_sem]
   have aN:wr.heap.size<w2.heap.size:=by have:=ac.size;simp at this;omega
   clear ac;go_wp2_with (at_builtin;refine tw _ rfl _ _ rfl w.heap.size _ (l.take k) rfl (eS.out.alloc _) w2.heap.size f u (by simp[go_sem]) (by simp[go_sem]) (by simp[go_sem]) HL.out (by simp;omega) ?_;intro v5 w5 dV aH;have H5:=jq (And.intro dV aH);clear dV aH);go_roundw
   case rel=>exact⟨k+1,by omega,by go_num,jq ((ai.out.alloc (by omega) _).trans H5.out.2),jq (by rw[HT.out];exact H5.out.1)⟩
   case measure=>simp[intOf] <;> omega
  ·have HE':Hid (l.take k=l):=jq (kQ (by omega));go_wp2_with fail;go_ret;exact⟨_,rfl,by have:=HO.out;rwa [HE'.out] at this,HB.out⟩
instance:Inhabited Np.Span:=⟨⟨0,0⟩⟩
theorem aoK(f u f' u':Int)(w:World) :
 Calls prog 178 #[.agg #[.int .i64 f,.int .i64 u],.agg #[.int .i64 f',.int .i64 u']] w λe w'=>e = .returned (.int .i64 (Np.de f f'))/\∃ q os,w'=grow (w.drewN q) os:=by
 go_enter func178,ntmps178;go_wp2_with (go_at_call 123;refine (Bt _ _ _).mono ?_;rintro e w' ⟨rfl,rfl⟩);go_ret;exact⟨rfl,0,_,by rw[alloc_eq_grow,alloc_eq_grow,grow_grow];rfl⟩
theorem Fv(x y:Np.Span):ltOf (λx y:Np.Span=>Np.de x.frm y.frm) x y=decide (x.frm<y.frm):=by
 unfold ltOf Np.de;by_cases h1:x.frm<y.frm
 ·simp[h1]
 ·by_cases h2:y.frm<x.frm <;> simp[h1,h2]
theorem aOQ:SWO (ltOf λx y:Np.Span=>Np.de x.frm y.frm) where
 irrefl x:=by rw[Fv];simp
 trans x y z h1 h2:=by rw[Fv] at *;simp at *;omega
 ntrans x y z h1 h2:=by rw[Fv] at *;simp at *;omega
theorem aLY{d d':Array Np.Span}(hp:PermIn 0 d.size d d')(hs:SortedIn (ltOf λx y:Np.Span=>Np.de x.frm y.frm) 0 d.size d'):d'.toList.Perm d.toList/\d'.toList.Pairwise λa b=>a.frm<=b.frm:=by
 obtain⟨h1,_,h3⟩:=hp;refine⟨?_,?_⟩
 ·have e1:d'.extract 0 d.size=d':=by rw[<-h1];simp
  have e2:d.extract 0 d.size=d:=by simp
  rwa [e1,e2] at h3
 ·rw[List.pairwise_iff_getElem];intro i j hi hj dj
  have:=hs i j (jQ _) dj (by rw[<-h1];simpa using hj)
  rw[Fv,getElem!_pos d' i (by simpa using hi),getElem!_pos d' j (by simpa using hj)] at this;simpa using this
theorem Sz(fid:FuncId)(YP:∀ (f u f' u':Int) (w:World),Calls prog fid #[.agg #[.int .i64 f,.int .i64 u],.agg #[.int .i64 f',.int .i64 u']] w λe w'=>e = .returned (.int .i64 (Np.de f f'))/\∃ q os,w'=grow (w.drewN q) os)(eg:∀ args w,(callFunc fid args).run prog w = .ok (.enter fid args) w)(base:Nat)(v:Value)(xs:List Np.Span)(w:World)(hown:aJ base w v xs)(hl:xs.length<=100000) :
 Calls prog 121 #[v,.func (.func fid) #[] #[]] w λe w'=>e = .returned (.tuple #[])/\∃ ys:List Np.Span,ys.Perm xs/\ys.Pairwise (λa b=>a.frm<=b.frm)/\aJ base w' v ys/\w.grownBy w' v.ownBlock:=by
 have qm:w.ownsRow base 110 2 v xs.length (xs.map gE).flatten:=hown;rcases qm.2 with ⟨rfl,h0⟩ | ⟨g,cap,cur,rfl,fh,hb,h1,h2,h3,h4⟩
 ·have:xs = []:=rQ h0
  subst this;refine (AnyF.slices_SortFunc_none Tryz.sortSpan none 0 _ w).mono ?_;intro e w' hh;obtain⟨rfl,rfl⟩:=hh;exact⟨rfl,[],List.Perm.refl _,List.Pairwise.nil,hown,⟨rfl,rfl,rfl,bQ _,λ_ _ _=>rfl⟩⟩
 have aE:∀ w,(isAgg 110).run prog w = .ok true w:=λw=>by kernel_rfl
 have zE:∀ w,(Go.sizeOf 110).run prog w = .ok 2 w:=λw=>by kernel_rfl
 have hH:=Zs gE 2 (λ_=>rfl) (by omega) hb h4;have BY:CmpLays prog fid #[] gE 2 (λx y:Np.Span=>Np.de x.frm y.frm) g 0 xs.toArray.size w:=λm os dk _ x y=>YP x.frm x.til y.frm y.til _;have EP:=AnyQ.slices_SortFunc Tryz.sortSpan 2 aE zE gE (λ_=>rfl) (λx u hu=>by simp only[gE,List.mem_cons,Qh,or_false] at hu;rcases hu with rfl | rfl <;> rfl) (λx y:Np.Span=>Np.de x.frm y.frm) aOQ fid #[] g 0 cap xs.toArray w eg BY hH (eQ.1 hb).1 (by simp;omega);refine EP.mono λe w' ⟨he,d',n,os,hp,hs,hw⟩=>⟨he,d'.toList,?_⟩;obtain⟨p1,p2⟩:=aLY hp hs;have hlen:d'.toList.length=xs.length:=by simpa using p1.length_eq
 refine⟨by simpa using p1,p2,?_,?_⟩
 ·subst hw;unfold aJ;rw[hlen]
  have:=arZ gE 2 (λ_=>rfl) (by omega) (n:=n) (os:=os) hlen fh hb h1 h2 h3
  simpa using this
 ·subst hw;exact XN gE 2 _
theorem aLK(base:Nat)(v:Value)(xs:List Np.Span)(w:World)(hown:aJ base w v xs)(hl:xs.length<=100000) :
 Calls prog 121 #[v,.func (.func 178) #[] #[]] w λe w'=>e = .returned (.tuple #[])/\∃ ys:List Np.Span,ys.Perm xs/\ys.Pairwise (λa b=>a.frm<=b.frm)/\aJ base w' v ys/\w.grownBy w' v.ownBlock:=
 Sz _ aoK (enters_of func178 (by kernel_rfl) rfl) base v xs w hown hl
theorem SP:∀ (l o:List Np.Span),(l.foldl Np.gP o).length<=o.length+l.length:=by
 intro l
 induction l with
 | nil=>intro o;simp
 | cons s l ih=>
  intro o;have h1:(Np.gP o s).length<=o.length+1:=by
   rcases List.eq_nil_or_concat o with rfl | ⟨q,p,rfl⟩
   ·simp[Np.SO]
   ·rw[List.concat_eq_append,Np.LA];split <;> simp
  have:=ih (Np.gP o s)
  rw[List.foldl_cons,List.length_cons];omega
theorem Xw(q:List Np.Span)(p:Np.Span)(u:Int):(((q ++ [p]).map gE).flatten).set (q.length * 2+1) (.int .i64 u)=((q ++ [(⟨p.frm,u⟩:Np.Span)]).map gE).flatten:=by
 have hl:((q.map gE).flatten).length=q.length * 2:=by rw[<-List.flatMap_def];induction q with | nil=>rfl | cons a q ih=>simp[List.flatMap_cons,ih,gE];omega
 rw[List.map_append,List.flatten_append,List.map_append,List.flatten_append,List.set_append_right _ _ (by rw[hl];omega),hl];congr 1;rw[show q.length * 2+1 - q.length * 2=1 by omega];rfl
theorem Xv(q:List Np.Span)(p:Np.Span)(j:Nat):(((q ++ [p]).map gE).flatten)[q.length * 2+j]?=(gE p)[j]?:=by
 have hl:((q.map gE).flatten).length=q.length * 2:=by rw[<-List.flatMap_def];induction q with | nil=>rfl | cons a q ih=>simp[List.flatMap_cons,ih,gE];omega
 rw[List.map_append,List.flatten_append,oQ (by rw[hl];omega),hl];simp
theorem aQQ(v:Value)(l:List Np.Span)(bW:l.length<=20000)(w:World)(h:SlR cT 2 w w.heap.size v l) :
 Calls prog 179 #[v] w (λe w'=>∃ v',e = .returned v'/\aJ w.heap.size w' v' (l.foldl Np.gP [])/\Below w.heap.size w w'):=by
 have HD:=jq h;obtain⟨A,c,rfl,bq,bM⟩:=ak h;clear h;have HN:Hid (∀ k,((l.take k).foldl Np.gP []).length<=k):=jq (λk=>yQ (SP _ _) (by simp;omega));go_enter func179,ntmps179;go_wp2_with fail;go_loopw [3,9] (λvo i wr=>∃ (k:Nat),k<=l.length/\i = .int .i64 k/\Hid (Below w.heap.size w wr)/\Hid (aJ w.heap.size wr vo ((l.take k).foldl Np.gP []))) (λ_ i _=>l.length - (intOf i).toNat)
 case atStart=>exact⟨0,jQ _,rfl,jq (vQ _ _),jq (aJ.nil _ _)⟩
 case round=>
  obtain⟨k,hk,rfl,HB,HO⟩:=hrel;have an:=HB.out.size;by_cases ab:k<l.length
  ·obtain⟨x,aa⟩:∃ x,l[k]?=some x:=⟨_,aQ ab⟩;obtain⟨A',c',hA',_,_,bU⟩:=HD.out.keep eE HB.out
   cases hA'
   obtain⟨b,o,e,rfl,bB,hlen,hce,hR⟩:=bU k _ aa;obtain rfl:=hR;have h0:wr.cell? ⟨b,o+k * 2,none⟩=some (.int .i64 x.frm):=hce 0 _ rfl;have h1:wr.cell? ⟨b,o+k * 2+1,none⟩=some (.int .i64 x.til):=hce 1 _ rfl;have HT:Hid ((l.take (k+1)).foldl Np.gP []=Np.gP ((l.take k).foldl Np.gP []) x):=jq (by
    obtain⟨hl,he⟩:=cQ.1 aa;rw[fQ hl,he,List.foldl_append];rfl)
   have dK:b<wr.heap.size:=by omega
   have aY:Hid (∀ o,Below w.heap.size w (wr.alloc o)):=jq (λo=>HB.out.alloc HB.out.size _);have zp:=HN.out k;obtain⟨fr,ti⟩:=x;clear bU hce aa;dsimp only at h0 h1;obtain⟨ol,Qf⟩:=acJ ((l.take k).foldl Np.gP []);rw[Qf] at HO HT zp;clear Qf;rcases List.eq_nil_or_concat ol with rfl | ⟨q,p,rfl⟩
   ·obtain⟨A0,c0,rfl⟩:=aJ.form HO.out;go_wp2_with fail;go_quiet (fail);obtain⟨w2,aj⟩:=acJ ((wr.alloc (.cells #[.int .i64 fr,.int .i64 ti] 110)).drewN nq);have aN:w2.heap.size=wr.heap.size+1:=by rw[<-aj];simp
    have c0:w2.cell? ⟨wr.heap.size,0,none⟩=some (.int .i64 fr):=by rw[<-aj];simp[go_sem]
    have c1:w2.cell? ⟨wr.heap.size,1,none⟩=some (.int .i64 ti):=by rw[<-aj];simp[go_sem]
    have iL:Below wr.heap.size wr w2:=by rw[<-aj];exact below_drewN ((vQ _ _).alloc (bQ _) _) _
    have ai:Hid (Below w.heap.size w w2):=jq (HB.out.trans (iL.mono an));have eS:Hid (aJ w.heap.size w2 _ []):=jq (HO.out.keep iL);rw[aj];clear aj iL;go_wp2_with (at_builtin;refine tw _ rfl _ _ rfl w.heap.size _ [] rfl (eS.out.alloc _) w2.heap.size fr ti (by simp[go_sem]) (by simp[go_sem]) (by simp[go_sem]) (by simp) (by simp;omega) ?_;intro v5 w5 dV aH;have H5:=jq (And.intro dV aH);clear dV aH);go_roundw
    case rel=>exact⟨k+1,by omega,by go_num,jq ((ai.out.alloc (by omega) _).trans H5.out.2),jq (by rw[HT.out];exact H5.out.1)⟩
    case measure=>simp[intOf] <;> omega
   ·rw[List.concat_eq_append] at HO HT zp;have hown:wr.ownsRow w.heap.size 110 2 u3 (q ++ [p]).length ((q ++ [p]).map gE).flatten:=HO.out;have ni:=jq (Xv q p);have T4:=jq (Xw q p);have G7:Hid ((q ++ [p]).length<=100000):=jq (by omega);have nK:(q ++ [p]).length=q.length+1:=by simp
    have hqk:q.length+1<=k:=by rw[nK] at zp;exact zp
    clear zp;rcases hown.2 with ⟨_,XP⟩ | ⟨g,cap,cur,rfl,fh,hb,bP,cr,_,_⟩
    ·rw[nK] at XP;omega
    have iZ:=jq hown;have lg:g<wr.heap.size:=(eQ.1 hb).1;clear hb hown;obtain⟨M,hM⟩:=acJ ((q ++ [p]).length);obtain⟨m,hm⟩:=acJ q.length;have g0:wr.cell? ⟨g,m * 2,none⟩=some (.int .i64 p.frm):=by
     rw[<-hm,iZ.out.cellAt _ (by rw[nK];omega)]
     have:=ni.out 0
     rwa [Nat.add_zero] at this
    have g1:wr.cell? ⟨g,m * 2+1,none⟩=some (.int .i64 p.til):=by
     rw[<-hm,iZ.out.cellAt _ (by rw[nK];omega)];exact ni.out 1
    have gf:wr.frozen? ⟨g,m * 2+1,none⟩=false:=iZ.out.frozenAt _;rw[nK,hm] at hM;have hq:IntKind.i64.wrap ((M:Int) - 1)=(m:Int):=by rw[show (M:Int) - 1=m by omega];simp[IntKind.wrap,IntKind.bits,IntKind.signed];omega
    have hM0:decide (0<(M:Int))=true:=adK;have a0Y:decide (0<M)=true:=adK;have hmM:m<M:=by omega
    have a9K:(m:Int)<(M:Int):=by omega
    have jP:(0:Int)<=(m:Int):=by omega
    have HM:Hid ((q ++ [p]).length=M):=jq (by rw[nK,hm,hM]);rw[HM.out] at bP;have Mz:=jq hM;have HQ:=jq hm;have iG:=jq (Np.LA q p ⟨fr,ti⟩);clear hM hm nK;rw[HM.out];by_cases ie:fr<=p.til
    ·have hd:decide (fr<=p.til)=true:=uQ ie;have jb:Hid ((l.take (k+1)).foldl Np.gP []=q ++ [⟨p.frm,max p.til ti⟩]):=jq (by rw[HT.out,iG.out,Qb ie]);clear ie;go_wp2_with fail;go_quiet (fail);obtain⟨w2,aj⟩:=acJ ((wr.alloc (.cells #[.int .i64 fr,.int .i64 ti] 110)).drewN nq);have aN:w2.heap.size=wr.heap.size+1:=by rw[<-aj];simp
     have c0:w2.cell? ⟨wr.heap.size,0,none⟩=some (.int .i64 fr):=by rw[<-aj];simp[go_sem]
     have c1:w2.cell? ⟨wr.heap.size,1,none⟩=some (.int .i64 ti):=by rw[<-aj];simp[go_sem]
     have iL:Below wr.heap.size wr w2:=by rw[<-aj];exact below_drewN ((vQ _ _).alloc (bQ _) _) _
     have ai:Hid (Below w.heap.size w w2):=jq (HB.out.trans (iL.mono an));have eS:Hid (aJ w.heap.size w2 (.slice (some ⟨g,0,none⟩) M cap) (q ++ [p])):=jq (HM.out ▸ HO.out.keep iL);rw[aj];clear aj;have d1:w2.cell? ⟨g,m * 2+1,none⟩=some (.int .i64 p.til):=(iL.cell lg).trans g1;have df:w2.frozen? ⟨g,m * 2+1,none⟩=false:=(iL.frozen lg).trans gf;clear iL g0 g1 gf;go_wp2_with fail;go_region;have du:Hid (aJ w.heap.size (w2.setCell ⟨g,m * 2+1,none⟩ (.int .i64 (max p.til ti))).drew (.slice (some ⟨g,0,none⟩) M cap) (q ++ [⟨p.frm,max p.til ti⟩])/\Below w.heap.size w (w2.setCell ⟨g,m * 2+1,none⟩ (.int .i64 (max p.til ti))).drew):=jq (by
      have h1:w2.ownsRow w.heap.size 110 2 (.slice (some ⟨g,0,none⟩) (q ++ [p]).length cap) (q ++ [p]).length ((q ++ [p]).map gE).flatten:=by
       have:=eS.out
       rw[<-HM.out] at this;exact this
      obtain⟨h2,h3⟩:=World.ownsRow.stored h1 (m * 2+1) (.int .i64 (max p.til ti));refine⟨aJ.keep (w:=w2.setCell ⟨g,m * 2+1,none⟩ (.int .i64 (max p.til ti))) ?_ (vQ _ _).drew,(ai.out.grown h3 ai.out.size (λk hk=>by simp at hk;omega)).drew⟩;rw[<-HQ.out] at h2 |-;rw[T4.out] at h2;have e1:(q ++ [(⟨p.frm,max p.til ti⟩:Np.Span)]).length=(q ++ [p]).length:=by simp
      unfold aJ;rw[e1,<-HM.out];exact h2)
     go_wp2_with fail;go_roundw
     case rel=>exact⟨k+1,by omega,by go_num,jq du.out.2,jq (by rw[jb.out];exact du.out.1)⟩
     case measure=>simp[intOf] <;> omega
    ·have hd:decide (fr<=p.til)=false:=tQ ie;have jb:Hid ((l.take (k+1)).foldl Np.gP []=q ++ [p] ++ [⟨fr,ti⟩]):=jq (by rw[HT.out,iG.out,Qc ie]);clear ie;go_wp2_with fail;go_quiet (fail);obtain⟨w2,aj⟩:=acJ ((wr.alloc (.cells #[.int .i64 fr,.int .i64 ti] 110)).drewN nq);have aN:w2.heap.size=wr.heap.size+1:=by rw[<-aj];simp
     have c0:w2.cell? ⟨wr.heap.size,0,none⟩=some (.int .i64 fr):=by rw[<-aj];simp[go_sem]
     have c1:w2.cell? ⟨wr.heap.size,1,none⟩=some (.int .i64 ti):=by rw[<-aj];simp[go_sem]
     have iL:Below wr.heap.size wr w2:=by rw[<-aj];exact below_drewN ((vQ _ _).alloc (bQ _) _) _
     have ai:Hid (Below w.heap.size w w2):=jq (HB.out.trans (iL.mono an));have eS:Hid (aJ w.heap.size w2 (.slice (some ⟨g,0,none⟩) M cap) (q ++ [p])):=jq (HM.out ▸ HO.out.keep iL);rw[aj];clear aj;clear iL g0 g1 gf;go_wp2_with (at_builtin;refine tw _ rfl _ _ rfl w.heap.size _ (q ++ [p]) rfl (eS.out.alloc _) w2.heap.size fr ti (by simp[go_sem]) (by simp[go_sem]) (by simp[go_sem]) G7.out (by simp;omega) ?_;intro v5 w5 dV aH;have H5:=jq (And.intro dV aH);clear dV aH);go_roundw
     case rel=>exact⟨k+1,by omega,by go_num,jq ((ai.out.alloc (by omega) _).trans H5.out.2),jq (by rw[jb.out];exact H5.out.1)⟩
     case measure=>simp[intOf] <;> omega
  ·have HE':Hid (l.take k=l):=jq (kQ (by omega));go_wp2_with fail;go_ret;exact⟨_,rfl,by have:=HO.out;rwa [HE'.out] at this,HB.out⟩
def Np.Bn(s:Np.Span):Prop:=0<=s.frm/\s.frm<s.til/\s.til<=20000000
theorem aJ.weak{base base':Nat}{w:World}{v:Value}{ps:List Np.Span}(h:aJ base w v ps)(hb:base'<=base):aJ base' w v ps:=by
 refine⟨h.1,?_⟩;rcases h.2 with h2 | ⟨g,cap,cur,h1,h2,h3⟩
 ·exact .inl h2
 ·exact .inr ⟨g,cap,cur,h1,yQ hb h2,h3⟩
theorem rG(l:List Np.Span):(Np.bT l).length<=l.length:=by
 have:=SP (l.mergeSort λa b=>decide (a.frm<=b.frm)) []
 simpa [Np.bT] using this
theorem Rr(v:Value)(l:List Np.Span)(bW:l.length<=20000)(hin:∀ s∈l,Np.Bn s)(w:World)(h:SlR cT 2 w w.heap.size v l) :
 Calls prog 109 #[v] w (λe w'=>∃ v',e = .returned (.tuple #[v',.int .i64 0])/\aJ w.heap.size w' v' (Np.bT l)/\Below w.heap.size w w'):=by
 have HD:=jq h;have fZ:=jq hin;obtain⟨A,c,rfl,bq,bM⟩:=ak h;clear h hin;have ie:decide (20000<(l.length:Int))=false:=adJ;go_enter func109,ntmps109;go_wp2_with fail;go_loopw [12] (λi wr=>∃ (k:Nat),k<=l.length/\i = .int .i64 k/\Hid (Below w.heap.size w wr)) (λi _=>l.length - (intOf i).toNat)
 case atStart=>exact⟨0,jQ _,rfl,jq (vQ _ _)⟩
 case round=>
  obtain⟨k,hk,rfl,HB⟩:=hrel;have an:=HB.out.size;by_cases ab:k<l.length
  ·obtain⟨x,aa⟩:∃ x,l[k]?=some x:=⟨_,aQ ab⟩;obtain⟨A',c',hA',_,_,bU⟩:=HD.out.keep eE HB.out
   cases hA'
   obtain⟨b,o,e,rfl,bB,hlen,hce,hR⟩:=bU k _ aa;obtain rfl:=hR;have h0:wr.cell? ⟨b,o+k * 2,none⟩=some (.int .i64 x.frm):=hce 0 _ rfl;have h1:wr.cell? ⟨b,o+k * 2+1,none⟩=some (.int .i64 x.til):=hce 1 _ rfl;obtain⟨i1,i2,i3⟩:=fZ.out x (gQ aa);have gu:decide (x.frm<0)=false:=adJ;have jr:decide (x.til<x.frm)=false:=adJ;have JL:decide (20000000<x.til)=false:=adJ;have aY:Hid (∀ o,Below w.heap.size w (wr.alloc o)):=jq (λo=>HB.out.alloc HB.out.size _);have dK:b<wr.heap.size:=by omega
   obtain⟨fr,ti⟩:=x;clear bU hce aa i1 i2 i3;dsimp only at h0 h1 gu jr JL;go_wp2_with fail;go_roundw
   case rel=>exact⟨k+1,by omega,by go_num,jq (aY.out _)⟩
   case measure=>simp[intOf] <;> omega
  ·have el:=jq (HD.out.keep eE HB.out);go_wp2_with fail;refine (aKX _ l bW (λs hs=>(fZ.out s hs).2.1) _ ((el.out.more jk an))).mono ?_;rintro e w2 ⟨v2,rfl,ji,ac⟩;have eS:=jq ji;have ai:=jq (HB.out.trans (ac.mono an));have aN:wr.heap.size<=w2.heap.size:=ac.size;clear ji ac;obtain⟨A2,c2,rfl⟩:=eS.out.form;go_wp2_with fail;refine (aLK wr.heap.size _ l _ eS.out (by omega)).mono ?_;rintro e w3 ⟨rfl,ys,hp,hs,mM,zh⟩;have nW:ys.length=l.length:=hp.length_eq;have HY:Hid (ys.foldl Np.gP []=Np.bT l):=jq (Np.apQ (λs hs=>(fZ.out s hs).2.1) hp hs);have iD:=jq mM;have aq:Below wr.heap.size w2 w3:=(vQ _ _).grown zh aN (λk hk=>(World.ownsRow.lt eS.out k hk).1);have ar:=jq (ai.out.trans (aq.mono an));clear hp hs mM zh;go_wp2_with fail;refine (aQQ _ ys (by omega) _ (iD.out.slr (by omega))).mono ?_;rintro e w4 ⟨v4,rfl,sW,aC⟩;have HE:=jq (And.intro sW (ar.out.trans (aC.mono ar.out.size)));clear sW aC;go_wp2_with fail;go_ret2;exact⟨_,rfl,by have:=HE.out.1.weak ar.out.size;rw[HY.out] at this;exact this,HE.out.2⟩
def Np.fL:List Np.Span->Np.Span->Bool->List Np.Span
 | [],s,put=>if put then [] else [s]
 | x::l,s,put=>if x.til<s.frm then x::fL l s put else if s.til<x.frm then (if put then [] else [s])++x::fL l s true else fL l ⟨min s.frm x.frm,max s.til x.til⟩ put
theorem S5:∀ (l:List Np.Span) (s:Np.Span),(∀ x∈l,s.til<x.frm/\x.frm<x.til)->s.frm<s.til->Np.fL l s true=l
 | [],_,_,_=>rfl
 | x::l,s,h,hs=>by
   obtain⟨h1,h2⟩:=h x (by simp);rw[Np.fL,Qc (by omega),Qb h1,S5 l s (λy hy=>h y (mQ _ hy)) hs];rfl
theorem LI:∀ (l:List Np.Span) (s:Np.Span),Np.ApartS l->s.frm<s.til->Np.fL l s false=Np.oq l s
 | [],_,_,_=>rfl
 | x::l,s,hl,hs=>by
   have hx:=hl.full x (by simp);rw[Np.fL,Np.oq];split
   ·rw[LI l s hl.tail hs]
   ·split
    ·rename_i h1 h2;rw[S5 l s (λy hy=>⟨?_,hl.full y (mQ _ hy)⟩) hs]
     ·rfl
     ·have:=(List.pairwise_cons.1 hl.apart).1 y hy
      omega
    ·exact LI l _ hl.tail (by simp;omega)
theorem F5:∀ (l:List Np.Span) (s:Np.Span),(Np.fL l s true).length<=l.length
 | [],_=>by simp[Np.fL]
 | x::l,s=>by
   rw[Np.fL];split
   ·have:=F5 l s;simp;omega
   ·split
    ·have:=F5 l s;simp;omega
    ·have:=F5 l ⟨min s.frm x.frm,max s.til x.til⟩;simp;omega
theorem LJ:∀ (l:List Np.Span) (s:Np.Span),(Np.fL l s false).length<=l.length+1
 | [],_=>by simp[Np.fL]
 | x::l,s=>by
   rw[Np.fL];split
   ·have:=LJ l s;simp;omega
   ·split
    ·have:=F5 l s;simp;omega
    ·have:=LJ l ⟨min s.frm x.frm,max s.til x.til⟩;simp;omega
structure SpBox(W:World)(b:Nat)(f u:Int):Prop where
 c0:W.cell? ⟨b,0,none⟩=some (.int .i64 f)
 c1:W.cell? ⟨b,1,none⟩=some (.int .i64 u)
 f0:W.frozen? ⟨b,0,none⟩=false
 f1:W.frozen? ⟨b,1,none⟩=false
 lt:b<W.heap.size
theorem SpBox.keep{W W':World}{b:Nat}{f u:Int}(h:SpBox W b f u){B:Nat}(hb:Below B W W')(hB:b<B):SpBox W' b f u:=
 ⟨(hb.cell hB).trans h.c0,(hb.cell hB).trans h.c1,(hb.frozen hB).trans h.f0,(hb.frozen hB).trans h.f1,lQ h.lt hb.size⟩
theorem SpBox.put0{W:World}{b:Nat}{f u:Int}(h:SpBox W b f u)(f':Int):SpBox (W.setCell ⟨b,0,none⟩ (.int .i64 f')) b f' u:=
 ⟨World.cell?_setCell_same _ _ _ h.c0,(xQ _ _ _ _ (by simp)).trans h.c1,(World.frozen?_setCell _ _ _ _).trans h.f0,(World.frozen?_setCell _ _ _ _).trans h.f1,by simpa using h.lt⟩
theorem SpBox.put1{W:World}{b:Nat}{f u:Int}(h:SpBox W b f u)(u':Int):SpBox (W.setCell ⟨b,1,none⟩ (.int .i64 u')) b f u':=
 ⟨(xQ _ _ _ _ (by simp)).trans h.c0,World.cell?_setCell_same _ _ _ h.c1,(World.frozen?_setCell _ _ _ _).trans h.f0,(World.frozen?_setCell _ _ _ _).trans h.f1,by simpa using h.lt⟩
theorem aJ.other{base:Nat}{W:World}{v:Value}{ps:List Np.Span}(h:aJ base W v ps){p:Addr}(hp:p.block<base)(u:Value):aJ base (W.setCell p u) v ps:=ownsRow_setCell_below h hp u
structure SpAt(W:World)(b j:Nat)(f u:Int):Prop where
 c0:W.cell? ⟨b,j,none⟩=some (.int .i64 f)
 c1:W.cell? ⟨b,j+1,none⟩=some (.int .i64 u)
theorem SpAt.keep{W W':World}{b j:Nat}{f u:Int}(h:SpAt W b j f u){B:Nat}(hb:Below B W W')(hB:b<B):SpAt W' b j f u:=⟨(hb.cell hB).trans h.c0,(hb.cell hB).trans h.c1⟩
theorem rM{W:World}{B b o n c k:Nat}{l:List Np.Span}{x:Np.Span}(h:SlR cT 2 W B (.slice (some ⟨b,o,none⟩) n c) l)(hx:l[k]?=some x):b<B/\SpAt W b (o+k * 2) x.frm x.til:=by
 obtain⟨A',c',hA',_,_,bU⟩:=h
 cases hA'
 obtain⟨b',o',e,hA,bB,hlen,hce,hR⟩:=bU k _ hx
 cases hA
 obtain rfl:=hR;exact⟨bB,hce 0 _ rfl,hce 1 _ rfl⟩
theorem tp{α:Type}{R:a1Z α}{sz:Nat}{W:World}{B:Nat}{A:Option Addr}{n c k:Nat}{l:List α}(h:SlR R sz W B (.slice A n c) l)(hk:k<l.length):∃ b o,A=some ⟨b,o,none⟩:=by
 obtain⟨A',c',hA',_,_,bU⟩:=h
 cases hA'
 obtain⟨b',o',e,hA,_⟩:=bU k _ (aQ hk);exact⟨b',o',hA⟩
structure WithK(X:Nat)(w W:World)(v:Value)(oo:List Np.Span)(fr ti:Int)(b j:Nat)(xf xu:Int):Prop where
 below:Below X w W
 own:aJ (X+1) W v oo
 box:SpBox W X fr ti
 at_:SpAt W b j xf xu
theorem WithK.keep{X:Nat}{w W W':World}{v:Value}{oo:List Np.Span}{fr ti:Int}{b j:Nat}{xf xu:Int}(h:WithK X w W v oo fr ti b j xf xu)(hb:Below W.heap.size W W')(dJ:b<X):WithK X w W' v oo fr ti b j xf xu:=
 ⟨h.below.trans (hb.mono (Nat.le_of_lt h.box.lt)),h.own.keep hb,h.box.keep hb h.box.lt,h.at_.keep hb (Nat.lt_trans dJ h.box.lt)⟩
theorem WithK.own'{X:Nat}{w W W':World}{v v':Value}{oo oo':List Np.Span}{fr ti:Int}{b j:Nat}{xf xu:Int}(h:WithK X w W v oo fr ti b j xf xu)(hb:Below (X+1) W W')(dJ:b<X)(ho:aJ (X+1) W' v' oo'):WithK X w W' v' oo' fr ti b j xf xu:=
 ⟨h.below.trans (hb.mono (Nat.le_succ _)),ho,h.box.keep hb (Nat.lt_succ_self _),h.at_.keep hb (by omega)⟩
theorem WithK.put0{X:Nat}{w W:World}{v:Value}{oo:List Np.Span}{fr ti:Int}{b j:Nat}{xf xu:Int}(h:WithK X w W v oo fr ti b j xf xu)(dJ:b<X)(u:Int):WithK X w (W.setCell ⟨X,0,none⟩ (.int .i64 u)) v oo u ti b j xf xu:=
 ⟨h.below.setCell (bQ _) _,h.own.other (by simp) _,h.box.put0 u,(xQ _ _ _ _ (by simp <;> omega)).trans h.at_.c0,(xQ _ _ _ _ (by simp <;> omega)).trans h.at_.c1⟩
theorem WithK.put1{X:Nat}{w W:World}{v:Value}{oo:List Np.Span}{fr ti:Int}{b j:Nat}{xf xu:Int}(h:WithK X w W v oo fr ti b j xf xu)(dJ:b<X)(u:Int):WithK X w (W.setCell ⟨X,1,none⟩ (.int .i64 u)) v oo fr u b j xf xu:=
 ⟨h.below.setCell (bQ _) _,h.own.other (by simp) _,h.box.put1 u,(xQ _ _ _ _ (by simp <;> omega)).trans h.at_.c0,(xQ _ _ _ _ (by simp <;> omega)).trans h.at_.c1⟩
theorem aTY(v:Value)(l:List Np.Span)(s:Np.Span)(bW:l.length<=20000)(hs:s.frm<s.til)(w:World)(h:SlR cT 2 w w.heap.size v l) :
 Calls prog 65 #[v,.agg #[.int .i64 s.frm,.int .i64 s.til]] w (λe w'=>∃ v',e = .returned v'/\aJ w.heap.size w' v' (Np.fL l s false)/\Below w.heap.size w w'):=by
 have HD:=jq h;obtain⟨A,c,rfl,bq,bM⟩:=ak h;clear h;have jm:Hid ((Np.fL l s false).length<=20001):=jq (by have:=LJ l s;omega);obtain⟨sf,su⟩:=s;dsimp only at hs;have nP:decide (su<=sf)=false:=adJ;go_enter func65,ntmps65;go_wp2_with fail;obtain⟨w1,ah⟩:=acJ (w.alloc (.cells #[.int .i64 sf,.int .i64 su] 110));obtain⟨X,hX⟩:=acJ w.heap.size;have HX:Hid (SpBox w1 X sf su):=jq (by rw[<-ah,<-hX];exact⟨by simp[go_sem],by simp[go_sem],by simp[go_sem],by simp[go_sem],by simp⟩);have bd:w1.heap.size=X+1:=by rw[<-ah,<-hX];simp
 have av:Hid (Below X w w1):=jq (by rw[<-ah,<-hX];exact (vQ _ _).alloc (bQ _) _);rw[ah,hX];clear ah;rw[hX] at HD;go_loopw [5,6,7] (λvo vp i wr=>∃ (k:Nat) (o:List Np.Span) (put:Bool) (fr ti:Int),k<=l.length/\i = .int .i64 k/\vp = .bool put/\Hid (Below X w wr)/\Hid (aJ (X+1) wr vo o)/\Hid (SpBox wr X fr ti)/\Hid (o++Np.fL (l.drop k) ⟨fr,ti⟩ put=Np.fL l ⟨sf,su⟩ false)) (λ_ _ i _=>l.length - (intOf i).toNat)
 case atStart=>exact⟨0,[],false,sf,su,jQ _,rfl,rfl,av,jq (aJ.nil _ _),HX,jq rfl⟩
 case round=>
  obtain⟨k,oo,put,fr,ti,hk,rfl,rfl,HB,HO,ei,HG⟩:=hrel;have an:=HB.out.size;have iR:=ei.out.lt;have cB:X<=wr.heap.size:=Nat.le_of_lt iR;have iE:Hid (oo.length<=30000):=jq (by have:=jm.out;rw[<-HG.out,List.length_append] at this;omega);have x0:=ei.out.c0;have x1:=ei.out.c1;have xf0:=ei.out.f0;have xf1:=ei.out.f1;by_cases ab:k<l.length
  ·obtain⟨x,aa⟩:∃ x,l[k]?=some x:=⟨_,aQ ab⟩;have el:=HD.out.keep eE HB.out;obtain⟨b,o,rfl⟩:=tp el ab;obtain⟨bB,hat⟩:=rM el aa;clear el;have h0:=hat.c0;have h1:=hat.c1;have HT:Hid (l.drop k=x::l.drop (k+1)):=jq (by
    obtain⟨hl,he⟩:=cQ.1 aa;rw[sQ hl,he])
   have dK:b<wr.heap.size:=by omega
   have dJ:b≠X:=by omega
   obtain⟨xf,xu⟩:=x;dsimp only at h0 h1 hat;have HAT:=jq hat;clear aa hat;have dJ:b<X:=bB;have HK:Hid (WithK X w wr u5 oo fr ti b (o+k * 2) xf xu):=jq ⟨HB.out,HO.out,ei.out,HAT.out⟩;clear HB HO ei HAT bB dK;by_cases ry:xu<fr
   ·have hd:decide (xu<fr)=true:=uQ ry;have nj:Hid ((oo ++ [⟨xf,xu⟩])++Np.fL (l.drop (k+1)) ⟨fr,ti⟩ put=Np.fL l ⟨sf,su⟩ false):=jq (by rw[<-HG.out,HT.out,Np.fL,Qb ry];simp);clear ry;go_wp2_with fail;go_quiet (fail);obtain⟨w2,aj⟩:=acJ (wr.drewN nq);have dp:Hid (WithK X w w2 _ _ _ _ b (o+k * 2) xf xu):=jq (by rw[<-aj];exact HK.out.keep (below_drewN (vQ _ _) _) dJ);rw[aj];clear aj x0 x1 xf0 xf1 iR h0 h1;have x0:=dp.out.box.c0;have x1:=dp.out.box.c1;have xf0:=dp.out.box.f0;have xf1:=dp.out.box.f1;have iR:=dp.out.box.lt;have h0:=dp.out.at_.c0;have h1:=dp.out.at_.c1;go_wp2_with (at_builtin;refine tw _ rfl _ _ rfl (X+1) _ (oo) rfl (dp.out.own.alloc _) w2.heap.size xf xu (by simp[go_sem]) (by simp[go_sem]) (by simp[go_sem]) (by have:=iE.out;omega) (by simp;omega) ?_;intro v5 w5 dV aH;have H5:=jq (And.intro dV aH);clear dV aH);have iX:=jq ((dp.out.keep ((vQ _ _).alloc (bQ _) _) dJ).own' H5.out.2 dJ H5.out.1);go_roundw
    case rel=>exact⟨k+1,oo ++ [⟨xf,xu⟩],put,fr,ti,by omega,by go_num,rfl,jq iX.out.below,jq iX.out.own,jq iX.out.box,nj⟩
    case measure=>simp[intOf] <;> omega
   ·have hd:decide (xu<fr)=false:=tQ ry;by_cases kx:ti<xf
    ·have jr:decide (ti<xf)=true:=uQ kx;have nj:Hid ((oo++(if put then [] else [⟨fr,ti⟩])) ++ [⟨xf,xu⟩]++Np.fL (l.drop (k+1)) ⟨fr,ti⟩ true=Np.fL l ⟨sf,su⟩ false):=jq (by rw[<-HG.out,HT.out,Np.fL,Qc ry,Qb kx];simp);clear ry kx
     cases put with
     | true=>
      go_wp2_with fail;go_quiet (fail);obtain⟨w2,aj⟩:=acJ (wr.drewN nq);have dp:Hid (WithK X w w2 _ _ _ _ b (o+k * 2) xf xu):=jq (by rw[<-aj];exact HK.out.keep (below_drewN (vQ _ _) _) dJ);rw[aj];clear aj x0 x1 xf0 xf1 iR h0 h1;have x0:=dp.out.box.c0;have x1:=dp.out.box.c1;have xf0:=dp.out.box.f0;have xf1:=dp.out.box.f1;have iR:=dp.out.box.lt;have h0:=dp.out.at_.c0;have h1:=dp.out.at_.c1;go_wp2_with fail;go_quiet (fail);obtain⟨w3,aj⟩:=acJ (w2.drewN nq);have f8:Hid (WithK X w w3 _ _ _ _ b (o+k * 2) xf xu):=jq (by rw[<-aj];exact dp.out.keep (below_drewN (vQ _ _) _) dJ);rw[aj];clear aj x0 x1 xf0 xf1 iR h0 h1;have x0:=f8.out.box.c0;have x1:=f8.out.box.c1;have xf0:=f8.out.box.f0;have xf1:=f8.out.box.f1;have iR:=f8.out.box.lt;have h0:=f8.out.at_.c0;have h1:=f8.out.at_.c1;go_wp2_with (at_builtin;refine tw _ rfl _ _ rfl (X+1) _ (oo) rfl (f8.out.own.alloc _) w3.heap.size xf xu (by simp[go_sem]) (by simp[go_sem]) (by simp[go_sem]) (by have:=iE.out;omega) (by simp;omega) ?_;intro v5 w5 dV aH;have H5:=jq (And.intro dV aH);clear dV aH);have iX:=jq ((f8.out.keep ((vQ _ _).alloc (bQ _) _) dJ).own' H5.out.2 dJ H5.out.1);go_roundw
      case rel=>exact⟨k+1,oo ++ [⟨xf,xu⟩],true,fr,ti,by omega,by go_num,rfl,jq iX.out.below,jq iX.out.own,jq iX.out.box,jq (by have:=nj.out;simpa using this)⟩
      case measure=>simp[intOf] <;> omega
     | false=>
      go_wp2_with fail;go_quiet (fail);obtain⟨w2,aj⟩:=acJ (wr.drewN nq);have dp:Hid (WithK X w w2 _ _ _ _ b (o+k * 2) xf xu):=jq (by rw[<-aj];exact HK.out.keep (below_drewN (vQ _ _) _) dJ);rw[aj];clear aj x0 x1 xf0 xf1 iR h0 h1;have x0:=dp.out.box.c0;have x1:=dp.out.box.c1;have xf0:=dp.out.box.f0;have xf1:=dp.out.box.f1;have iR:=dp.out.box.lt;have h0:=dp.out.at_.c0;have h1:=dp.out.at_.c1;go_wp2_with fail;go_quiet (fail);obtain⟨w3,aj⟩:=acJ (w2.drewN nq);have f8:Hid (WithK X w w3 _ _ _ _ b (o+k * 2) xf xu):=jq (by rw[<-aj];exact dp.out.keep (below_drewN (vQ _ _) _) dJ);rw[aj];clear aj x0 x1 xf0 xf1 iR h0 h1;have x0:=f8.out.box.c0;have x1:=f8.out.box.c1;have xf0:=f8.out.box.f0;have xf1:=f8.out.box.f1;have iR:=f8.out.box.lt;have h0:=f8.out.at_.c0;have h1:=f8.out.at_.c1;go_wp2_with (at_builtin;first | (refine tw _ rfl _ _ rfl (X+1) _ oo rfl (f8.out.own.alloc _) w3.heap.size fr ti (by simp[go_sem]) (by simp[go_sem]) (by simp[go_sem]) (by have:=iE.out;omega) (by simp;omega) ?_;intro v5 w5 dV aH;have iX:Hid (WithK X w w5 v5 (oo ++ [⟨fr,ti⟩]) fr ti b (o+k * 2) xf xu):=jq ((f8.out.keep ((vQ _ _).alloc (bQ _) _) dJ).own' aH dJ dV);clear dV aH x0 x1 xf0 xf1 iR h0 h1;have x0:=iX.out.box.c0;have x1:=iX.out.box.c1;have xf0:=iX.out.box.f0;have xf1:=iX.out.box.f1;have iR:=iX.out.box.lt;have h0:=iX.out.at_.c0;have h1:=iX.out.at_.c1) | (refine tw _ rfl _ _ rfl (X+1) _ (oo ++ [⟨fr,ti⟩]) rfl (iX.out.own.alloc _) w5.heap.size xf xu (by simp[go_sem]) (by simp[go_sem]) (by simp[go_sem]) (by have:=iE.out;simp;omega) (by simp;omega) ?_;intro v6 w6 ix aW;have H6:=jq (And.intro ix aW);clear ix aW));have G0:=jq ((iX.out.keep ((vQ _ _).alloc (bQ _) _) dJ).own' H6.out.2 dJ H6.out.1);go_roundw
      case rel=>exact⟨k+1,oo ++ [⟨fr,ti⟩] ++ [⟨xf,xu⟩],true,fr,ti,by omega,by go_num,rfl,jq G0.out.below,jq G0.out.own,jq G0.out.box,jq (by have:=nj.out;simpa using this)⟩
      case measure=>simp[intOf] <;> omega
    ·have jr:decide (ti<xf)=false:=tQ kx;have nj:Hid (oo++Np.fL (l.drop (k+1)) ⟨min fr xf,max ti xu⟩ put=Np.fL l ⟨sf,su⟩ false):=jq (by rw[<-HG.out,HT.out,Np.fL,Qc ry,Qc kx]);clear ry kx;go_wp2_with fail;go_quiet (fail);obtain⟨w2,aj⟩:=acJ (wr.drewN nq);have dp:Hid (WithK X w w2 _ _ _ _ b (o+k * 2) xf xu):=jq (by rw[<-aj];exact HK.out.keep (below_drewN (vQ _ _) _) dJ);rw[aj];clear aj x0 x1 xf0 xf1 iR h0 h1;have x0:=dp.out.box.c0;have x1:=dp.out.box.c1;have xf0:=dp.out.box.f0;have xf1:=dp.out.box.f1;have iR:=dp.out.box.lt;have h0:=dp.out.at_.c0;have h1:=dp.out.at_.c1;go_wp2_with fail;go_quiet (fail);obtain⟨w3,aj⟩:=acJ (w2.drewN nq);have f8:Hid (WithK X w w3 _ _ _ _ b (o+k * 2) xf xu):=jq (by rw[<-aj];exact dp.out.keep (below_drewN (vQ _ _) _) dJ);rw[aj];clear aj x0 x1 xf0 xf1 iR h0 h1;have x0:=f8.out.box.c0;have x1:=f8.out.box.c1;have xf0:=f8.out.box.f0;have xf1:=f8.out.box.f1;have iR:=f8.out.box.lt;have h0:=f8.out.at_.c0;have h1:=f8.out.at_.c1;go_wp2_with fail;go_region;obtain⟨w4,aj⟩:=acJ ((w3.setCell ⟨X,0,none⟩ (.int .i64 (min fr xf))).drew);have qK:Hid (WithK X w w4 _ _ _ _ b (o+k * 2) xf xu):=jq (by rw[<-aj];exact (f8.out.put0 dJ _).keep (vQ _ _).drew dJ);rw[aj];clear aj x0 x1 xf0 xf1 iR h0 h1;have x0:=qK.out.box.c0;have x1:=qK.out.box.c1;have xf0:=qK.out.box.f0;have xf1:=qK.out.box.f1;have iR:=qK.out.box.lt;have h0:=qK.out.at_.c0;have h1:=qK.out.at_.c1;go_wp2_with fail;go_region;obtain⟨w5,aj⟩:=acJ ((w4.setCell ⟨X,1,none⟩ (.int .i64 (max ti xu))).drew);have iX:Hid (WithK X w w5 _ _ _ _ b (o+k * 2) xf xu):=jq (by rw[<-aj];exact (qK.out.put1 dJ _).keep (vQ _ _).drew dJ);rw[aj];clear aj;go_wp2_with fail;go_roundw
     case rel=>exact⟨k+1,oo,put,_,_,by omega,by go_num,rfl,jq iX.out.below,jq iX.out.own,jq iX.out.box,nj⟩
     case measure=>simp[intOf] <;> omega
  ·have HE:Hid (l.drop k = []):=jq (List.drop_eq_nil_of_le (by omega))
   cases put with
   | true=>
    have HR:Hid (oo=Np.fL l ⟨sf,su⟩ false):=jq (by have:=HG.out;rw[HE.out] at this;simpa [Np.fL] using this);go_wp2_with fail;go_ret;refine⟨_,rfl,?_,?_⟩
    ·rw[hX];have:=HO.out.weak (Nat.le_succ X);rw[HR.out] at this;exact this
    ·rw[hX];exact HB.out
   | false=>
    have HR:Hid (oo ++ [⟨fr,ti⟩]=Np.fL l ⟨sf,su⟩ false):=jq (by have:=HG.out;rw[HE.out] at this;simpa [Np.fL] using this);go_wp2_with (at_builtin;refine tw _ rfl _ _ rfl (X+1) _ oo rfl (HO.out.alloc _) wr.heap.size fr ti (by simp[go_sem]) (by simp[go_sem]) (by simp[go_sem]) (by have:=iE.out;omega) (by simp;omega) ?_;intro v5 w5 dV aH;have H5:=jq (And.intro dV aH);clear dV aH);go_ret;refine⟨_,rfl,?_,?_⟩
    ·rw[hX];have:=H5.out.1.weak (Nat.le_succ X);rw[HR.out] at this;exact this
    ·rw[hX];exact (HB.out.alloc cB _).trans (H5.out.2.mono (Nat.le_succ X))
end
section
open Go.RowKit
theorem Rm{x:List UInt8}(h:Np.aD x=true):x≠[]:=by
 rintro rfl;revert h;decide
def Vl(w1:World)(apex:List UInt8)(l:List Np.Signed)(i:Value)(wr:World):Prop:=
 ∃ k:Nat,k<=l.length/\i = .int .i64 k/\Below w1.heap.size w1 wr/\Hid (∀ j x,j<k->l[j]?=some x->Np.cZ x.set=true)/\Hid (Np.kn apex none l=Np.kn apex (qA l k) (l.drop k))
theorem aDZ(a:ByteArray)(ha:a.size<=140737488355328)(v:Value)(l:List Np.Signed)(bW:l.length<=20000)(w:World)(hd:SlR bO 5 w w.heap.size v l) :
 Calls prog 159 #[.agg #[.string a,v]] w (a0X w.heap.size w (.bool (Np.fK ⟨a.data.toList,l⟩))):=by
 have HD:=jq hd;obtain⟨A,c,rfl,bq,bM,-⟩:=hd;have HW:Hid (∀ o,Below w.heap.size w (w.alloc o)):=jq (λo=>(vQ _ w).alloc (bQ _) _);go_enter func159,ntmps159;go_wp2_with fail;refine (tk _ ha _).mono ?_;rintro e w1 ⟨rfl,hb⟩;have c0:w1.cell? ⟨w.heap.size,0,none⟩=some (.string a):=by rw[hb.cell (by simp)];go_simp
 have c1:w1.cell? ⟨w.heap.size,1,none⟩=some (.slice A l.length c):=by rw[hb.cell (by simp)];go_simp
 have eO:w.heap.size<w1.heap.size:=by have:=hb.size;simp at this;omega
 have av:=jq ((HW.out _).trans (hb.mono (by simp)));clear hb
 cases rD:Np.aD a.data.toList with
 | false=>
  have HF:Hid (Np.fK ⟨a.data.toList,l⟩=false):=jq (by unfold Np.fK;rw[rD];rfl);clear rD;go_wp2_with fail;go_ret;exact⟨ag HF.out.symm,av.out⟩
 | true=>
  have yK:=jq rD;have haz:=uT rD;clear rD;go_wp2_with fail;refine (K9 a yK.out _).mono ?_;rintro e w0 ⟨rfl,cP⟩;have ZZ:=cP.size;replace c0:w0.cell? ⟨w.heap.size,0,none⟩=some (.string a):=(cP.cell (by simpa using eO)).trans c0;replace c1:w0.cell? ⟨w.heap.size,1,none⟩=some (.slice A l.length c):=(cP.cell (by simpa using eO)).trans c1;replace av:=acZ av cP;replace eO:w.heap.size<w0.heap.size:=by omega
  clear cP ZZ;obtain⟨w1,rfl⟩:=acY w0
  cases tc:Np.eD a.data.toList with
  | true=>
   have HF:Hid (Np.fK ⟨a.data.toList,l⟩=false):=jq (by unfold Np.fK;rw[tc];simp);go_wp2_with (go_at_call 225;refine (FK a ha _).mono ?_;rintro e w' ⟨rfl,rfl⟩);go_ret;exact⟨ag HF.out.symm,av.out⟩
  | false=>
   have HF:Hid (Np.fK ⟨a.data.toList,l⟩=Np.kn a.data.toList none l):=jq (by unfold Np.fK;rw[tc,yK.out];simp);go_wp2_with (go_at_call 225;refine (FK a ha _).mono ?_;rintro e w' ⟨rfl,rfl⟩);clear tc;go_loopw [3] (λi wr=>Vl w1 a.data.toList l i wr) (λi _=>l.length - (intOf i).toNat)
   case atStart=>exact⟨0,jQ _,rfl,vQ _ _,jq (λj x hj=>by omega),jq rfl⟩
   case round=>
    obtain⟨k,hk,rfl,aI,HV,HG⟩:=hrel;have aaQ:=aI.size;have d0:wr.cell? ⟨w.heap.size,0,none⟩=some (.string a):=by rw[aI.cell (by simpa using eO)];exact c0
    have d1:wr.cell? ⟨w.heap.size,1,none⟩=some (.slice A l.length c):=by rw[aI.cell (by simpa using eO)];exact c1
    have dK:w.heap.size<wr.heap.size:=by omega
    by_cases ab:k<l.length
    ·have l7:Below w.heap.size w wr:=av.out.trans (aI.adZ);have aa:=aQ ab;obtain⟨b,o,c',sn,dv,sv,hA,bA,_,aw,an,aK,aS,e0,e1,e2,e3,e4⟩:=fE (HD.out.keep bj l7) aa
     cases hA
     generalize hx:l[k]=x at *;clear hx;obtain⟨Ad,cd,rfl,JH,Zk⟩:=ak aK;have im:=jq aK;have HX:=jq aa;have ph:(⟨sn.data.toList,x.set.type,x.set.life,x.set.data⟩:Np.DSet)=x.set:=by rw[aw]
     have M8:=jq ph;have aT:=jq aw;have aV:=jq aI;have yl:=jq l7;have qI:=jq (HG.out.trans (Te aa (qA l k)));clear aK aS aa aw aI l7 c0 c1 ph e4;go_wp2_with fail;have mE:Below wr.heap.size wr (wr.alloc (.cells #[.string sn,.int .i64 x.set.type,.int .i64 x.set.life,.slice Ad x.set.data.length cd] 26)):=(vQ _ _).alloc (bQ _) _;have p0:=World.cell?_alloc_new wr #[.string sn,.int .i64 x.set.type,.int .i64 x.set.life,.slice Ad x.set.data.length cd] 26 0;have p1:=World.cell?_alloc_new wr #[.string sn,.int .i64 x.set.type,.int .i64 x.set.life,.slice Ad x.set.data.length cd] 26 1;have p2:=World.cell?_alloc_new wr #[.string sn,.int .i64 x.set.type,.int .i64 x.set.life,.slice Ad x.set.data.length cd] 26 2;have p3:=World.cell?_alloc_new wr #[.string sn,.int .i64 x.set.type,.int .i64 x.set.life,.slice Ad x.set.data.length cd] 26 3;have gK:wr.heap.size<(wr.alloc (.cells #[.string sn,.int .i64 x.set.type,.int .i64 x.set.life,.slice Ad x.set.data.length cd] 26)).heap.size:=by simp
     generalize wr.alloc (.cells #[.string sn,.int .i64 x.set.type,.int .i64 x.set.life,.slice Ad x.set.data.length cd] 26)=wa at mE p0 p1 p2 p3 gK |-;have dY:=jq mE;have vn:=acZ yl mE;replace d0:wa.cell? ⟨w.heap.size,0,none⟩=some (.string a):=by rw[mE.cell (by simpa using dK)];exact d0
     replace d1:wa.cell? ⟨w.heap.size,1,none⟩=some (.slice (some ⟨b,o,none⟩) l.length c):=by rw[mE.cell (by simpa using dK)];exact d1
     replace p0:wa.cell? ⟨wr.heap.size,0,none⟩=some (.string sn):=p0;replace p1:wa.cell? ⟨wr.heap.size,1,none⟩=some (.int .i64 x.set.type):=p1;replace p2:wa.cell? ⟨wr.heap.size,2,none⟩=some (.int .i64 x.set.life):=p2;replace p3:wa.cell? ⟨wr.heap.size,3,none⟩=some (.slice Ad x.set.data.length cd):=p3;have k9:∀ (g:bk wa) (p:Addr),p.block<wa.heap.size->g.w.cell? p=wa.cell? p:=λg p h=>g.cell p h;have bcK:w.heap.size<wa.heap.size:=by omega
     have a3J:b<wa.heap.size:=by omega
     have Am:=jq ((im.out.keep bV (dY.out.adZ)).more cu (show w.heap.size<=wa.heap.size by omega));clear mE e0 e1 e2 e3;have bL:∀ g:bk wa,Calls prog 150 #[.agg #[.string sn,.int .i64 x.set.type,.int .i64 x.set.life,.slice Ad x.set.data.length cd]] g.w λe w'=>e = .returned (.bool (Np.cZ x.set))/\Below g.w.heap.size g.w w':=λg=>by
      rw[<-M8.out];exact K8 sn an _ _ _ x.set.data _ (Am.out.later bV cu g.below)
     cases dD:Np.cZ x.set with
     | false=>
      rw[dD] at bL;have jC:=jq bL;have kM:=jq dD;clear bL dD;refine a0Z ?_
      repeat (go_big_quiet_step ((go_at_call 150;exact Calls.grow_of (jC.out _))))
      refine wpQuiet_nil ?_;rintro _ ⟨g,rfl⟩;go_wp2_with fail;go_ret;refine⟨ag ?_,vn.out.trans (g.below.adZ)⟩;rw[HF.out,qI.out,kM.out,Bool.and_false];rfl
     | true=>
      rw[dD] at bL;have jC:=jq bL;have kM:=jq dD;have lR:Np.aD sn.data.toList=true:=by rw[aT.out];exact (Np.tu dD).1
      have iI:=jq lR;have ZV:=uT lR;have hin:∀ g:bk wa,Calls prog 222 #[.string sn,.string a] g.w λe w'=>e = .returned (.bool (Np.bD sn.data.toList a.data.toList))/\Below g.w.heap.size g.w w':=λg=>by
       rw[<-Np.zB (Rm yK.out)];exact C2 sn a (by omega) (by omega) _
      have BP:∀ j y,j<k+1->l[j]?=some y->Np.cZ y.set=true:=λj y hj hy=>by
       by_cases e:j=k
       ·subst e;rw[HX.out] at hy;cases hy;exact dD
       ·exact HV.out j y (by omega) hy
      have qD:=jq BP;clear bL dD lR BP
      cases fi:Np.bD sn.data.toList a.data.toList with
      | false=>
       rw[fi] at hin;have fZ:=jq hin;have AX:=jq fi;clear fi hin;refine a0Z ?_
       repeat (go_big_quiet_step (first
        | (go_at_call 150;exact Calls.grow_of (jC.out _))
        | (go_at_call 222;exact Calls.grow_of (fZ.out _))))
       refine wpQuiet_nil ?_;rintro _ ⟨g,rfl⟩;go_wp2_with fail;go_ret;refine⟨ag ?_,vn.out.trans (g.below.adZ)⟩;rw[HF.out,qI.out,<-aT.out,iI.out,AX.out];rfl
      | true=>
       rw[fi] at hin;have fZ:=jq hin;have CH:Np.kn a.data.toList none l=((match qA l k with | none=>true | some q=>decide (Np.ir q x.set<0))&&Np.kn a.data.toList (qA l (k+1)) (l.drop (k+1))):=by
        rw[qI.out,<-aT.out,iI.out,fi,kM.out,F9 HX.out];rfl
       have du:=jq CH;clear fi hin CH;by_cases bJ:k=0
       ·subst bJ;refine a0Z ?_
        repeat (go_big_quiet_step (first
         | (go_at_call 150;exact Calls.grow_of (jC.out _))
         | (go_at_call 222;exact Calls.grow_of (fZ.out _))))
        refine wpQuiet_nil ?_;rintro _ ⟨g,rfl⟩;go_wp2_with fail;go_roundw
        case rel=>exact⟨1,by omega,by go_num,aV.out.trans ((dY.out.trans (g.below.adZ)).mono aV.out.size),qD,jq (by rw[du.out];rfl)⟩
        case measure=>simp[intOf] <;> omega
       ·obtain⟨i,rfl⟩:∃ i,k=i+1:=⟨k - 1,by omega⟩;have sN:=aQ (show i<l.length by omega);obtain⟨b',o',c'',sq,dq,sg,pY,BT,_,kC,Qz,B4,_,f0,f1,f2,f3,_⟩:=fE ((HD.out.keep bj vn.out)) sN
        cases pY
        generalize hy:l[i]=y at *;clear hy;obtain⟨Aq,cq,rfl,YC,PX⟩:=ak B4;have Qu:(⟨sq.data.toList,y.set.type,y.set.life,y.set.data⟩:Np.DSet)=y.set:=by rw[kC]
        have QI:Np.aD sq.data.toList=true:=by rw[kC];exact (Np.tu (HV.out i y (by omega) sN)).1
        have Ql:qA l (i+1)=some y.set:=F9 sN;have pN:=jq Ql;have Qg:∀ g:bk wa,Calls prog 234 #[.agg #[.string sq,.int .i64 y.set.type,.int .i64 y.set.life,.slice Aq y.set.data.length cq],.agg #[.string sn,.int .i64 x.set.type,.int .i64 x.set.life,.slice Ad x.set.data.length cd]] g.w λe w'=>e = .returned (.int .i64 (Np.ir y.set x.set))/\Below g.w.heap.size g.w w':=λg=>by
         have:=aEZ sq sn y.set.type y.set.life x.set.type x.set.life (.slice Aq y.set.data.length cq) (.slice Ad x.set.data.length cd) y.set.data x.set.data QI iI.out g.w
         rw[Qu,M8.out] at this;exact this
        have MN:=jq Qg;clear Qu Ql B4 kC sN Qg QI;have la:(0:Int)<=(i:Int):=by omega
        have ru:(i:Int)<(l.length:Int):=by omega
        have Zx:(0:Int)<(((i+1:Nat)):Int):=by omega
        have ah:IntKind.i64.wrap (((i+1:Nat):Int) - 1)=(i:Int):=by rw[IntWalk.i64_in _ (by omega)];omega
        by_cases gG:Np.ir y.set x.set<0
        ·have lu:=jq (uQ gG);have JJ:¬ (0<=Np.ir y.set x.set):=by omega
         refine a0Z ?_
         repeat (go_big_quiet_step (first
          | (go_at_call 150;exact Calls.grow_of (jC.out _))
          | (go_at_call 222;exact Calls.grow_of (fZ.out _))
          | (go_at_call 234;exact Calls.grow_of (MN.out _))))
         refine wpQuiet_nil ?_;rintro _ ⟨g,rfl⟩;go_wp2_with fail;go_roundw
         case rel=>
          refine⟨i+1+1,by omega,by go_num,aV.out.trans ((dY.out.trans (g.below.adZ)).mono aV.out.size),qD,jq ?_⟩;rw[du.out,pN.out];simp only[lu.out,Bool.true_and]
         case measure=>simp[intOf] <;> omega
        ·have lu:=jq (tQ gG);have JJ:0<=Np.ir y.set x.set:=by omega
         refine a0Z ?_
         repeat (go_big_quiet_step (first
          | (go_at_call 150;exact Calls.grow_of (jC.out _))
          | (go_at_call 222;exact Calls.grow_of (fZ.out _))
          | (go_at_call 234;exact Calls.grow_of (MN.out _))))
         refine wpQuiet_nil ?_;rintro _ ⟨g,rfl⟩;go_wp2_with fail;go_ret;refine⟨ag ?_,vn.out.trans (g.below.adZ)⟩;rw[HF.out,du.out,pN.out];simp only[lu.out,Bool.false_and]
    ·go_wp2_with fail;go_ret;refine⟨ag ?_,av.out.trans (aI.adZ)⟩;rw[HF.out,HG.out,List.drop_eq_nil_of_le (by omega)];rfl
end
namespace Np
theorem zF{l:List Copy}{a:List UInt8} : a∈apexes l↔∃ c∈l,c.zone.apex=a:=by
 unfold apexes;rw[(FY _).mem_iff,th,List.mem_map]
theorem VM{l m:List Copy}(h:∀ a,(∃ c∈l,c.zone.apex=a)↔∃ c∈m,c.zone.apex=a):apexes l=apexes m:=
 Lp fW _ _ (Lj (xR _)) (Lj (xR _)) λa=>zF.trans ((h a).trans zF.symm)
theorem IK(l:List Copy):(l.map (·.zone.apex)).foldl fD []=apexes l:=by
 have key:∀ (l o:List (List UInt8)),o.Pairwise (λa b=>aL a b<0)->(l.foldl fD o).Pairwise (λa b=>aL a b<0)/\∀ y,y∈l.foldl fD o↔y∈o\/y∈l:=by
  intro l
  induction l with
  | nil=>exact λo ho=>⟨ho,λy=>by simp⟩
  | cons a l ih=>
   intro o ho;obtain⟨h1,h2⟩:=RM o a ho;obtain⟨h3,h4⟩:=ih _ h1;exact⟨h3,λy=>by rw[List.foldl_cons,h4,h2,List.mem_cons,or_assoc]⟩
 obtain⟨h1,h2⟩:=key (l.map (·.zone.apex)) [] List.Pairwise.nil;refine Lp fW _ _ h1 (Lj (xR _)) λa=>?_;rw[h2,zF,List.mem_map];simp
def yS(a:Int)(c:Copy):List Copy:=if c.frm<a/\a<c.til then [⟨c.host,c.frm,a,c.zone⟩,⟨c.host,a,c.til,c.zone⟩] else [c]
def wu(l:List Copy)(k:Nat)(a:Int):List Copy:=
 match l[k]? with
 | none=>l
 | some c=>l.take k++yS a c++l.drop (k+1)
theorem WN{a:Int}{c d:Copy}(h:d∈yS a c):d.host=c.host/\d.zone=c.zone/\c.frm<=d.frm/\d.til<=c.til/\(c.frm<c.til->d.frm<d.til):=by
 unfold yS at h;split at h
 ·rename_i hc;simp only[List.mem_cons,Qh,or_false] at h;rcases h with rfl | rfl
  ·exact⟨rfl,rfl,Int.le_refl _,Int.le_of_lt hc.2,λ_=>hc.1⟩
  ·exact⟨rfl,rfl,Int.le_of_lt hc.1,Int.le_refl _,λ_=>hc.2⟩
 ·rw[List.mem_singleton] at h;subst h;exact⟨rfl,rfl,Int.le_refl _,Int.le_refl _,id⟩
theorem WP{l:List Copy}{k:Nat}{c:Copy}(h:l[k]?=some c):l=l.take k ++ [c]++l.drop (k+1):=by
 obtain⟨hk,rfl⟩:=cQ.1 h;rw[List.append_assoc,List.singleton_append,List.getElem_cons_drop,List.take_append_drop]
theorem Ok(l:List Copy)(k:Nat)(a:Int):wu l k a=l\/∃ p c q,l=p ++ [c]++q/\wu l k a=p++yS a c++q:=by
 unfold wu
 cases h:l[k]? with
 | none=>exact .inl rfl
 | some c=>exact .inr ⟨_,c,_,WP h,rfl⟩
theorem Ol{l:List Copy}{k:Nat}{a:Int}{d:Copy}(h:d∈wu l k a):∃ c∈l,d.host=c.host/\d.zone=c.zone/\c.frm<=d.frm/\d.til<=c.til/\(c.frm<c.til->d.frm<d.til):=by
 rcases Ok l k a with e | ⟨p,c,q,e1,e2⟩
 ·rw[e] at h;exact⟨d,h,rfl,rfl,Int.le_refl _,Int.le_refl _,id⟩
 ·rw[e2] at h;rcases List.mem_append.1 h with h | h
  ·rcases List.mem_append.1 h with h | h
   ·exact⟨d,by rw[e1];simp[h],rfl,rfl,Int.le_refl _,Int.le_refl _,id⟩
   ·exact⟨c,by rw[e1];simp,WN h⟩
  ·exact⟨d,by rw[e1];simp[h],rfl,rfl,Int.le_refl _,Int.le_refl _,id⟩
theorem O7{l:List Copy}(hl:ot l){P:Int->Zone->Prop} : (∃ c∈l,P c.host c.zone)↔∃ t,∃ c∈l,P c.host c.zone/\c.frm<=t/\t<c.til:=
 ⟨λ⟨c,h1,h2⟩=>⟨c.frm,c,h1,h2,Int.le_refl _,hl c h1⟩,λ⟨_,c,h1,h2,_⟩=>⟨c,h1,h2⟩⟩
def yN(l m:List Copy):Prop:=∀ (P:Int->Zone->Prop) (t:Int),(∃ d∈l,P d.host d.zone/\d.frm<=t/\t<d.til)↔∃ c∈m,P c.host c.zone/\c.frm<=t/\t<c.til
theorem yN.zone{l m:List Copy}(h:yN l m)(hl:ot l)(hm:ot m){P:Int->Zone->Prop} : (∃ c∈l,P c.host c.zone)↔∃ c∈m,P c.host c.zone:=by
 rw[O7 hl,O7 hm];exact⟨λ⟨t,ht⟩=>⟨t,(h P t).1 ht⟩,λ⟨t,ht⟩=>⟨t,(h P t).2 ht⟩⟩
theorem yN.apexes{l m:List Copy}(h:yN l m)(hl:ot l)(hm:ot m):apexes l=apexes m:=
 VM λa=>h.zone hl hm (P:=λ_ z=>z.apex=a)
theorem yN.fresh{l m:List Copy}(h:yN l m)(hl:ot l)(hm:ot m)(zone:List UInt8)(s:Signed):bT (fd (cX l zone) s)=bT (fd (cX m zone) s):=by
 refine Rp (zN hl) (zN hm) λt=>KM.trans (Iff.trans ?_ KM.symm)
 have:=h (λ_ z=>z.apex=zone/\s∈z.sets) t
 simpa only[and_assoc] using this
theorem FB(a b:List Copy)(zone:List UInt8):cX (a++b) zone=cX a zone++cX b zone:=by
 unfold cX tY;rw[List.filter_append,List.flatMap_append]
theorem WO(l:List Copy)(k:Nat)(a:Int):(wu l k a).length<=l.length+1:=by
 rcases Ok l k a with e | ⟨p,c,q,e1,e2⟩
 ·rw[e];omega
 ·rw[e2,e1]
  have:(yS a c).length<=2:=by unfold yS;split <;> simp
  simp only[List.length_append,List.length_singleton];omega
def withC(h:Hist)(l:List Copy):Hist:=⟨h.hosts,l,h.anchor,h.hints,h.drift,h.stop⟩
def zK(l:List Copy)(u:Int):List Copy:=(l.map λc=>⟨c.host,c.frm,min c.til u,c.zone⟩).filter λc=>decide (c.frm<c.til)
theorem Rj{l:List Copy}{u:Int}{d:Copy} : d∈zK l u↔∃ c∈l,d=⟨c.host,c.frm,min c.til u,c.zone⟩/\c.frm<min c.til u:=by
 unfold zK;rw[List.mem_filter,List.mem_map];constructor
 ·rintro⟨⟨c,hc,rfl⟩,h⟩;exact⟨c,hc,rfl,by simpa using h⟩
 ·rintro⟨c,hc,rfl,h⟩;exact⟨⟨c,hc,rfl⟩,by simpa using h⟩
theorem aKK(l:List Copy)(u:Int):(zK l u).length<=l.length:=by
 unfold zK;exact yQ (List.length_filter_le _ _) (by rw[List.length_map];exact bQ _)
end Np
section
open Go.RowKit
theorem anX(a b:ByteArray)(n1 n2 n3 n4 m1 m2 m3 m4:Int)(s1 s2:Int)(w:World):(binOp .neq 50 (.agg #[.string a,.int .i64 n1,.int .i64 n2,.int .i64 n3,.int .i64 n4,.int .u64 s1]) (.agg #[.string b,.int .i64 m1,.int .i64 m2,.int .i64 m3,.int .i64 m4,.int .u64 s2])).run prog w = .ok (.bool (!(a.toList == b.toList&&(n1 == m1&&(n2 == m2&&(n3 == m3&&(n4 == m4&&s1 == s2))))))) w:=by
 have u3:=underlying3;have a3:=isAgg3;have z3:=sizeOf3;have u9:=underlying9;have a9:=isAgg9;have z9:=sizeOf9;have u8:=underlying48;have a8:=isAgg48;have z8:=sizeOf48;have hS:prog.underlying 50=some (.struct (prog.fieldsOf 50)):=by kernel_rfl
 have hp:prog.stoodInHeld 50=false:=by kernel_rfl
 rw[run_neq_struct,show (10000:Nat)=9999+1 from rfl,run_equalIn_agg w 9999 50 _ _ hS hp];simp only[Program.fieldsOf,underlying50];go_simp;by_cases h0:a.toList=b.toList <;> by_cases h1:n1=m1 <;> by_cases h2:n2=m2 <;> by_cases h3:n3=m3 <;> by_cases h4:n4=m4 <;> by_cases h5:s1=s2 <;> simp[h0,h1,h2,h3,h4,h5]
theorem aKY{x y:Np.Sig}{a b:ByteArray}(ha:a.data.toList=x.zone)(hb:b.data.toList=y.zone):(!(a.toList == b.toList&&(x.key == y.key&&(x.alg == y.alg&&(x.frm == y.frm&&(x.til == y.til&&x.sum == y.sum))))))=decide (x≠y):=by
 rw[dQ,dQ,ha,hb];obtain⟨z,k,g,f,t,m⟩:=x;obtain⟨z',k',g',f',t',m'⟩:=y;simp only[ne_eq,Np.Sig.mk.injEq];by_cases h0:z=z' <;> by_cases h1:k=k' <;> by_cases h2:g=g' <;> by_cases h3:f=f' <;> by_cases h4:t=t' <;> by_cases h5:m=m' <;> simp[h0,h1,h2,h3,h4,h5]
theorem FU(s1 s2:ByteArray)(t1 l1 t2 l2:Int)(v1 v2 u1 u2:Value)(d1 d2:List Np.Datum)(g1 g2:List Np.Sig)(w:World)(gu:SlR bR 3 w w.heap.size v1 d1)(jr:SlR bR 3 w w.heap.size v2 d2)(rt:SlR cS 6 w w.heap.size u1 g1)(uk:SlR cS 6 w w.heap.size u2 g2) :
 Calls prog 20 #[.agg #[.string s1,.int .i64 t1,.int .i64 l1,v1,u1],.agg #[.string s2,.int .i64 t2,.int .i64 l2,v2,u2]] w
  λe w'=>e = .returned (.bool (decide ((s1=s2/\t1=t2/\l1=l2/\d1=d2)/\g1=g2)))/\Below w.heap.size w w':=by
 obtain⟨r,hr⟩:=acJ (decide ((s1=s2/\t1=t2/\l1=l2/\d1=d2)/\g1=g2));rw[hr];have HR:=jq hr;have oC:=jq gu;have el:=jq jr;have yr:=jq rt;have nj:=jq uk;obtain⟨A1,c1,rfl,_,_⟩:=ak gu;obtain⟨A2,c2,rfl,_,_⟩:=ak jr;obtain⟨A3,c3,rfl,_,_⟩:=ak rt;obtain⟨A4,c4,rfl,_,_⟩:=ak uk;clear gu jr rt uk hr;obtain⟨d1n,h1⟩:=acJ d1.length;obtain⟨d2n,h2⟩:=acJ d2.length;obtain⟨n,h3⟩:=acJ g1.length;obtain⟨m,h4⟩:=acJ g2.length;rw[h1,h2,h3,h4];rw[h1] at oC;rw[h2] at el;rw[h3] at yr;rw[h4] at nj;have H3:=jq h3;have H4:=jq h4;clear h1 h2 h3 h4;obtain⟨X,hX⟩:=acJ w.heap.size;obtain⟨Y,hY⟩:=acJ (X+1);obtain⟨W1,am⟩:=acJ ((w.alloc (.cells #[.string s1,.int .i64 t1,.int .i64 l1,.slice A1 d1n c1,.slice A3 n c3] 42)).alloc (.cells #[.string s2,.int .i64 t2,.int .i64 l2,.slice A2 d2n c2,.slice A4 m c4] 42));have aI:Below w.heap.size w W1:=by rw[<-am];exact ((vQ _ _).alloc (bQ _) _).alloc (by simp) _
 have iS:W1.heap.size=w.heap.size+2:=by rw[<-am];simp
 have k0:W1.cell? ⟨X,0,none⟩=some (.string s1):=by rw[<-am,<-hX];simp[go_sem]
 have k1:W1.cell? ⟨X,1,none⟩=some (.int .i64 t1):=by rw[<-am,<-hX];simp[go_sem]
 have k2:W1.cell? ⟨X,2,none⟩=some (.int .i64 l1):=by rw[<-am,<-hX];simp[go_sem]
 have k3:W1.cell? ⟨X,3,none⟩=some (.slice A1 d1n c1):=by rw[<-am,<-hX];simp[go_sem]
 have k4:W1.cell? ⟨X,4,none⟩=some (.slice A3 n c3):=by rw[<-am,<-hX];simp[go_sem]
 have j0:W1.cell? ⟨Y,0,none⟩=some (.string s2):=by rw[<-am,<-hY,<-hX];simp[go_sem]
 have j1:W1.cell? ⟨Y,1,none⟩=some (.int .i64 t2):=by rw[<-am,<-hY,<-hX];simp[go_sem]
 have j2:W1.cell? ⟨Y,2,none⟩=some (.int .i64 l2):=by rw[<-am,<-hY,<-hX];simp[go_sem]
 have j3:W1.cell? ⟨Y,3,none⟩=some (.slice A2 d2n c2):=by rw[<-am,<-hY,<-hX];simp[go_sem]
 have j4:W1.cell? ⟨Y,4,none⟩=some (.slice A4 m c4):=by rw[<-am,<-hY,<-hX];simp[go_sem]
 rw[hX] at aI iS oC el yr nj |-;have aV:=jq aI;clear aI;go_enter func20,ntmps20;go_wp2_with fail;refine (aJK s1 s2 t1 l1 t2 l2 _ _ d1 d2 _ ((oC.out.keep bV aV.out).more cu (by omega)) ((el.out.keep bV aV.out).more cu (by omega))).mono ?_;rintro e w2 ⟨rfl,ac⟩;have aN:=ac.size;replace k0:=aaJ ac k0;replace k1:=aaJ ac k1;replace k2:=aaJ ac k2;replace k3:=aaJ ac k3;replace k4:=aaJ ac k4;replace j0:=aaJ ac j0;replace j1:=aaJ ac j1;replace j2:=aaJ ac j2;replace j3:=aaJ ac j3;replace j4:=aaJ ac j4;have ai:=acZ aV ac;clear ac am hX;obtain⟨q,hq⟩:=acJ (decide (s1=s2/\t1=t2/\l1=l2/\d1=d2));rw[hq];have iF:=jq hq;clear hq
 cases q with
 | false=>
  have HX:Hid (r=false):=jq (by rw[<-HR.out];exact tQ λh=>(of_decide_eq_false iF.out) h.1);go_wp2_with fail;go_ret;exact⟨ag HX.out.symm,ai.out⟩
 | true=>
  by_cases ig:n=m
  ·subst ig;go_wp2_with fail;go_loopw [5] (λi wr=>∃ (k:Nat),k<=n/\i = .int .i64 k/\Hid (Below w2.heap.size w2 wr)/\Hid (g1.take k=g2.take k)) (λi _=>n - (intOf i).toNat)
   case atStart=>exact⟨0,jQ _,rfl,jq (vQ _ _),jq rfl⟩
   case round=>
    obtain⟨k,hk,rfl,bG,HT⟩:=hrel;have an:=bG.out.size;have HB:=acZ ai bG.out;have a4:=aaJ bG.out k4;have b4:=aaJ bG.out j4;by_cases ab:k<n
    ·obtain⟨x,hx⟩:∃ x,g1[k]?=some x:=⟨_,aQ (by rw[H3.out];exact ab)⟩;obtain⟨y,hy⟩:∃ y,g2[k]?=some y:=⟨_,aQ (by rw[H4.out];exact ab)⟩;obtain⟨b,o,c,sx,hv,bA,lh,_,f0,f1,f2,f3,f4,f5⟩:=mr (yr.out.keep cg HB.out) hx;obtain⟨b',o',c',sy,hv',BT,gk,_,e0,e1,e2,e3,e4,e5⟩:=mr (nj.out.keep cg HB.out) hy;simp only[Value.slice.injEq] at hv hv';obtain⟨rfl,_,_⟩:=hv;obtain⟨rfl,_,_⟩:=hv';have jb:Hid (x=y->g1.take (k+1)=g2.take (k+1)):=jq (λe=>by
      obtain⟨q1,q2⟩:=cQ.1 hx;obtain⟨q3,q4⟩:=cQ.1 hy;rw[fQ q1,fQ q3,q2,q4,HT.out,e])
     have lZ:Hid (x≠y->r=false):=jq (λe=>by
      rw[<-HR.out];refine tQ λh=>e ?_;have h2:=h.2;subst h2;rw[hx] at hy;simpa using hy)
     have bJ:(0:Int)<=(k:Int):=by omega
     have bI:(k:Int)<(n:Int):=by omega
     have heq:=anX sx sy x.key x.alg x.frm x.til y.key y.alg y.frm y.til x.sum y.sum;rw[aKY lh gk] at heq;clear hx hy lh gk;by_cases dM:x=y
     ·have HX:=jq (jb.out dM);have lj:decide (x≠y)=false:=by simpa using dM
      rw[lj] at heq;clear lj dM;go_wp2_with fail;go_quiet (fail);go_wp2_with fail;go_roundw
      case rel=>exact⟨k+1,by omega,by go_num,jq (below_drewN bG.out _),HX⟩
      case measure=>simp[intOf] <;> omega
     ·have HX:=jq (lZ.out dM);have lj:decide (x≠y)=true:=uQ dM;rw[lj] at heq;clear lj dM;go_wp2_with fail;go_quiet (fail);go_wp2_with fail;go_ret;exact⟨ag HX.out.symm,below_drewN HB.out _⟩
    ·have HX:Hid (r=true):=jq (by
      rw[<-HR.out];refine uQ ⟨of_decide_eq_true iF.out,?_⟩
      have:=HT.out
      rwa [kQ (by rw[H3.out];omega),kQ (by rw[H4.out];omega)] at this)
     go_wp2_with fail;go_ret;exact⟨ag HX.out.symm,HB.out⟩
  ·have hne:(n:Int)≠(m:Int):=by omega
   have hd:decide ((n:Int)=(m:Int))=false:=tQ hne;have hb:((n:Int) == (m:Int))=false:=by simpa using hne
   have HX:Hid (r=false):=jq (by rw[<-HR.out];exact tQ λh=>ig (by rw[<-H3.out,<-H4.out,h.2]));go_wp2_with fail;go_ret;exact⟨ag HX.out.symm,ai.out⟩
end
section
open Go.RowKit Go.Sort Go.Shelf
def Np.pC(l:List Np.Span):Prop:=∀ s∈l,s.frm<s.til
theorem S6(v:Value)(ps:List Np.Span)(s:Np.Span)(bW:ps.length<=20000)(hp:Np.pC ps)(hs:s.frm<s.til)(w:World)(h:SlR cT 2 w w.heap.size v (Np.bT ps)) :
 Calls prog 65 #[v,.agg #[.int .i64 s.frm,.int .i64 s.til]] w (λe w'=>∃ v',e = .returned v'/\aJ w.heap.size w' v' (Np.bT (ps ++ [s]))/\Below w.heap.size w w'):=by
 have h1:=aTY v (Np.bT ps) s (by have:=rG ps;omega) hs w h;rwa [LI _ _ (Np.xS hp).1 hs,Np.aTX hp hs] at h1
theorem NL(v:Value)(l:List Np.Span)(bW:l.length<=20000)(hf:Np.pC l)(w:World)(h:SlR cT 2 w w.heap.size v l) :
 Calls prog 64 #[v] w (λe w'=>∃ v',e = .returned v'/\aJ w.heap.size w' v' (Np.bT l)/\Below w.heap.size w w'):=by
 have HD:=jq h;have HF:=jq hf;obtain⟨A,c,rfl,bq,bM⟩:=ak h;clear h hf;go_enter func64,ntmps64;go_wp2_with fail;go_loopw [3,4] (λvo i wr=>∃ (k:Nat),k<=l.length/\i = .int .i64 k/\Hid (Below w.heap.size w wr)/\Hid (aJ w.heap.size wr vo (Np.bT (l.take k)))) (λ_ i _=>l.length - (intOf i).toNat)
 case atStart=>exact⟨0,jQ _,rfl,jq (vQ _ _),jq (by rw[List.take_zero,Np.aoY];exact aJ.nil _ _)⟩
 case round=>
  obtain⟨k,hk,rfl,HB,HO⟩:=hrel;have an:=HB.out.size;by_cases ab:k<l.length
  ·obtain⟨x,aa⟩:∃ x,l[k]?=some x:=⟨_,aQ ab⟩;have el:=HD.out.keep eE HB.out;obtain⟨b,o,rfl⟩:=tp el ab;obtain⟨bB,hat⟩:=rM el aa;clear el;have h0:=hat.c0;have h1:=hat.c1;have HT:Hid (l.take (k+1)=l.take k ++ [x]):=jq (by
    obtain⟨hl,he⟩:=cQ.1 aa;rw[fQ hl,he])
   have HX:Hid (x.frm<x.til):=jq (HF.out x (gQ aa));have vD:Hid (Np.pC (l.take k)):=jq (λy hy=>HF.out y (List.mem_of_mem_take hy));have kg:Hid ((l.take k).length<=20000):=jq (by rw[List.length_take];omega);have HS:Hid (SlR cT 2 wr wr.heap.size u3 (Np.bT (l.take k))):=jq (HO.out.slr (by have:=rG (l.take k);have:=kg.out;omega));clear aa hat;go_wp2_with fail;refine (S6 _ (l.take k) x kg.out vD.out HX.out _ HS.out).mono ?_;rintro e w2 ⟨v2,rfl,ji,ac⟩;have H2:=jq (And.intro (ji.weak an) (HB.out.trans (ac.mono an)));clear ji ac;go_wp2_with fail;go_roundw
   case rel=>exact⟨k+1,by omega,by go_num,jq H2.out.2,jq (by rw[HT.out];exact H2.out.1)⟩
   case measure=>simp[intOf] <;> omega
  ·have HE':Hid (l.take k=l):=jq (kQ (by omega));go_wp2_with fail;go_ret;exact⟨_,rfl,by have:=HO.out;rw[HE'.out] at this;exact this,HB.out⟩
theorem Ov(v v':Value)(l m:List Np.Span)(a7J:l.length<=10000)(a8Y:m.length<=10000)(hf:Np.pC l)(hg:Np.pC m)(w:World)(h:SlR cT 2 w w.heap.size v l)(h':SlR cT 2 w w.heap.size v' m) :
 Calls prog 23 #[v,v'] w (λe w'=>∃ v',e = .returned v'/\aJ w.heap.size w' v' (Np.bT (l++m))/\Below w.heap.size w w'):=by
 have HL:=jq h;have HD:=jq h';have ni:=jq hf;have HF:=jq hg;obtain⟨A,c,rfl,bq,bM⟩:=ak h;obtain⟨A',c',rfl,Pg,Cl⟩:=ak h';clear h h' hf hg;go_enter func23,ntmps23;go_wp2_with fail;refine (NL _ l (by omega) ni.out _ HL.out).mono ?_;rintro e w1 ⟨v1,rfl,Ct,ay⟩;have UA:=jq Ct;have av:=jq ay;clear Ct ay;go_wp2_with fail;go_loopw [5,6] (λvo i wr=>∃ (k:Nat),k<=m.length/\i = .int .i64 k/\Hid (Below w.heap.size w wr)/\Hid (aJ w.heap.size wr vo (Np.bT (l++m.take k)))) (λ_ i _=>m.length - (intOf i).toNat)
 case atStart=>exact⟨0,jQ _,rfl,av,jq (by rw[List.take_zero,List.append_nil];exact UA.out)⟩
 case round=>
  obtain⟨k,hk,rfl,HB,HO⟩:=hrel;have an:=HB.out.size;by_cases ab:k<m.length
  ·obtain⟨x,aa⟩:∃ x,m[k]?=some x:=⟨_,aQ ab⟩;have el:=HD.out.keep eE HB.out;obtain⟨b,o,rfl⟩:=tp el ab;obtain⟨bB,hat⟩:=rM el aa;clear el;have h0:=hat.c0;have h1:=hat.c1;have HT:Hid (l++m.take (k+1)=(l++m.take k) ++ [x]):=jq (by
    obtain⟨hl,he⟩:=cQ.1 aa;rw[fQ hl,he,List.append_assoc])
   have HX:Hid (x.frm<x.til):=jq (HF.out x (gQ aa));have vD:Hid (Np.pC (l++m.take k)):=jq (λy hy=>(List.mem_append.1 hy).elim (ni.out y) λhy=>HF.out y (List.mem_of_mem_take hy));have kg:Hid ((l++m.take k).length<=20000):=jq (by rw[List.length_append,List.length_take];omega);have HS:Hid (SlR cT 2 wr wr.heap.size u5 (Np.bT (l++m.take k))):=jq (HO.out.slr (by have:=rG (l++m.take k);have:=kg.out;omega));clear aa hat;go_wp2_with fail;refine (S6 _ (l++m.take k) x kg.out vD.out HX.out _ HS.out).mono ?_;rintro e w2 ⟨v2,rfl,ji,ac⟩;have H2:=jq (And.intro (ji.weak an) (HB.out.trans (ac.mono an)));clear ji ac;go_wp2_with fail;go_roundw
   case rel=>exact⟨k+1,by omega,by go_num,jq H2.out.2,jq (by rw[HT.out];exact H2.out.1)⟩
   case measure=>simp[intOf] <;> omega
  ·have HE':Hid (m.take k=m):=jq (kQ (by omega));go_wp2_with fail;go_ret;exact⟨_,rfl,by have:=HO.out;rw[HE'.out] at this;exact this,HB.out⟩
theorem anY(f u f' u':Int)(w:World):(binOp .neq 110 (.agg #[.int .i64 f,.int .i64 u]) (.agg #[.int .i64 f',.int .i64 u'])).run prog w = .ok (.bool (decide ((⟨f,u⟩:Np.Span)≠⟨f',u'⟩))) w:=by
 have u3:=underlying3;have a3:=isAgg3;have z3:=sizeOf3;have hS:prog.underlying 110=some (.struct (prog.fieldsOf 110)):=by kernel_rfl
 have hp:prog.stoodInHeld 110=false:=by kernel_rfl
 rw[run_neq_struct,show (10000:Nat)=9999+1 from rfl,run_equalIn_agg w 9999 110 _ _ hS hp];simp only[Program.fieldsOf,underlying110];go_simp;by_cases h1:f=f' <;> by_cases h2:u=u' <;> simp[h1,h2]
theorem FV(v v':Value)(l m:List Np.Span)(w:World)(h:SlR cT 2 w w.heap.size v l)(h':SlR cT 2 w w.heap.size v' m) :
 Calls prog 21 #[v,v'] w (λe w'=>e = .returned (.bool (decide (l=m)))/\Below w.heap.size w w'):=by
 have HL:=jq h;have HM:=jq h';obtain⟨A,c,rfl,bq,bM⟩:=ak h;obtain⟨A',c',rfl,Pg,Cl⟩:=ak h';clear h h';by_cases hlen:l.length=m.length
 ·have yv:=jq hlen;obtain⟨n,hn⟩:=acJ m.length;rw[hn] at Pg Cl hlen;have HN:=jq hn;rw[hlen] at bq bM;rw[hn,hlen];have qP:=jq hlen;clear hlen hn;go_enter func21,ntmps21;go_wp2_with fail;go_loopw [5] (λi wr=>∃ (k:Nat),k<=n/\i = .int .i64 k/\Hid (Below w.heap.size w wr)/\Hid (l.take k=m.take k)) (λi _=>n - (intOf i).toNat)
  case atStart=>exact⟨0,jQ _,rfl,jq (vQ _ _),jq rfl⟩
  case round=>
   obtain⟨k,hk,rfl,HB,HT⟩:=hrel;have an:=HB.out.size;by_cases ab:k<n
   ·have PW:=qP.out;have P5:=HN.out;obtain⟨x,hx⟩:∃ x,l[k]?=some x:=⟨_,aQ (by omega)⟩;obtain⟨y,hy⟩:∃ y,m[k]?=some y:=⟨_,aQ (by omega)⟩;have el:=HL.out.keep eE HB.out;have Ds:=HM.out.keep eE HB.out;rw[PW] at el;rw[P5] at Ds;obtain⟨b,o,rfl⟩:=tp (k:=k) el (by omega);obtain⟨b',o',rfl⟩:=tp (k:=k) Ds (by omega);obtain⟨bB,hat⟩:=rM el hx;obtain⟨uf,y8⟩:=rM Ds hy;have h0:=hat.c0;have h1:=hat.c1;have h0':=y8.c0;have h1':=y8.c1;have jb:Hid (x=y->l.take (k+1)=m.take (k+1)):=jq (λe=>by
     obtain⟨q1,q2⟩:=cQ.1 hx;obtain⟨q3,q4⟩:=cQ.1 hy;rw[fQ q1,fQ q3,q2,q4,HT.out,e])
    have lZ:Hid (x≠y->decide (l=m)=false):=jq (λe=>tQ (by rintro rfl;rw[hx] at hy;exact e (by simpa using hy)));have bJ:(0:Int)<=(k:Int):=by omega
    have bI:(k:Int)<(n:Int):=by omega
    have heq:=anY x.frm x.til y.frm y.til;clear el Ds hat y8 hx hy PW P5;by_cases dM:x=y
    ·have HX:=jq (jb.out dM);have lj:decide ((⟨x.frm,x.til⟩:Np.Span)≠⟨y.frm,y.til⟩)=false:=by rw[dM];simp
     rw[lj] at heq;clear lj dM;go_wp2_with fail;go_quiet (fail);go_wp2_with fail;go_roundw
     case rel=>exact⟨k+1,by omega,by go_num,jq (below_drewN HB.out _),HX⟩
     case measure=>simp[intOf] <;> omega
    ·have HX:=jq (lZ.out dM);have lj:decide ((⟨x.frm,x.til⟩:Np.Span)≠⟨y.frm,y.til⟩)=true:=uQ dM;rw[lj] at heq;clear lj dM;go_wp2_with fail;go_quiet (fail);go_wp2_with fail;go_ret;exact⟨ag HX.out.symm,below_drewN HB.out _⟩
   ·have HE:Hid (decide (l=m)=true):=jq (uQ (by
     have:=HT.out
     rwa [kQ (by have:=qP.out;omega),kQ (by have:=HN.out;omega)] at this))
    go_wp2_with fail;go_ret;exact⟨ag HE.out.symm,HB.out⟩
 ·have hne:(l.length:Int)≠(m.length:Int):=by omega
  have hd:decide ((l.length:Int)=(m.length:Int))=false:=tQ hne;have HE:Hid (decide (l=m)=false):=jq (tQ (by rintro rfl;exact hlen rfl));have hb:((l.length:Int) == (m.length:Int))=false:=by simpa using hne
  go_enter func21,ntmps21;go_wp2_with fail;go_ret;exact⟨ag HE.out.symm,vQ _ _⟩
end
namespace Np
def ra(s:Signed):Prop:=∀ g∈s.sigs,0<=g.sum/\g.sum<18446744073709551616
def lG(h:Hist):Prop:=∀ c∈h.copies,∀ s∈c.zone.sets,ra s
theorem aIZ{c:UInt8}(h:tg c=true):c≠47:=by rintro rfl;revert h;decide
theorem zG{l:List UInt8}(h:aD l=true):47∉l:=λhm=>by
 obtain⟨_,rfl | ⟨c,r,rfl,_,hr⟩⟩:=tj h
 ·revert hm;decide
 ·exact aIZ (List.all_eq_true.1 hr 47 hm) rfl
theorem XB{l:List UInt8}(h:kD l=true):47∉l:=λhm=>by
 unfold kD at h;simp only[Bool.and_eq_true] at h
 have:=List.all_eq_true.1 h.2 47 hm
 revert this;decide
theorem aOK{k:Int}{l:List UInt8}(h:yc k l=true):47∉l:=by
 unfold yc at h;split at h
 ·simp only[Bool.and_eq_true] at h;exact zG h.1
 ·split at h
  ·exact zG h
  ·split at h
   ·exact XB h
   ·have:l = []:=by simpa using h
    rw[this];simp
theorem Lf(k:Int):0<=(ci k).leastN/\0<=(ci k).leastM:=by
 unfold ci;generalize k.toNat=n;by_cases h:n<9
 ·have:∀ m,m<9->0<=(rules.getD m ⟨0,0,0,0,0,false,false,false⟩).leastN/\0<=(rules.getD m ⟨0,0,0,0,0,false,false,false⟩).leastM:=by decide
  exact this n h
 ·have e:rules[n]?=none:=List.getElem?_eq_none (by simp[rules];omega);rw[List.getD_eq_getElem?_getD,e];decide
theorem Oo{k:Int}{d:Datum}(h:kb (ci k) d=true):47∉d.text/\0<=d.n/\0<=d.m:=by
 unfold kb at h;simp only[Bool.and_eq_true,Qa] at h;obtain⟨⟨⟨⟨h1,_⟩,h2,_⟩,_⟩,h3⟩:=h
 have:=Lf k
 exact⟨aOK h3,by omega,by omega⟩
theorem zT{z:Zone}(v:VZone z):aD z.apex=true/\∀ x∈z.sets,cZ x.set=true:=by
 have h:=v.right;unfold fK at h;simp only[Bool.and_eq_true] at h;exact⟨h.1.1,Eg h.2⟩
theorem LQ{z:Zone}(v:VZone z){x:Signed}(hx:x∈z.sets)(hs:ra x):Plain47 x:=by
 obtain⟨ha,hv⟩:=zT v;obtain⟨h1,h2,h3,h4,h5,h6,h7,h8⟩:=tu (hv x hx);refine⟨zG h1,by omega,h4,λd hd=>Oo (Bx h8 d hd),λg hg=>?_⟩;obtain⟨i,hi⟩:=List.mem_iff_getElem?.1 hg
 have:=(v.form x hx).2 i g hi
 exact⟨by rw[this.zone];exact zG ha,by have:=this.key;omega,by have:=this.alg;omega,this.win.1,by have:=this.win;omega,(hs g hg).1⟩
def oa(us:List Signed):List (List UInt8×Value):=us.zipIdx.map λp=>(dE p.1,.int .i64 ((p.2:Nat):Int))
theorem agY(us:List Signed)(s:Signed):oa (us ++ [s])=oa us ++ [(dE s,.int .i64 ((us.length:Nat):Int))]:=by
 unfold oa;rw[List.zipIdx_append,List.map_append];simp
theorem Q7:∀ (us:List Signed) (n:Nat) (s:Signed),Plain47 s->(∀ x∈us,Plain47 x)->s∉us->((us.zipIdx n).map λp=>(dE p.1,Value.int .i64 ((p.2:Nat):Int))).lookup (dE s)=none
 | [],_,_,_,_,_=>rfl
 | x::us,n,s,hs,hu,hn=>by
   rw[List.zipIdx_cons,List.map_cons,List.lookup_cons];have hne:(dE s == dE x)=false:=by
    rw[beq_eq_false_iff_ne];intro e;exact hn (by rw[Fo hs (hu x (by simp)) e];simp)
   rw[hne];exact Q7 us (n+1) s hs (λy hy=>hu y (mQ _ hy)) (λh=>hn (mQ _ h))
theorem agX{us:List Signed}{s:Signed}(hs:Plain47 s)(hu:∀ x∈us,Plain47 x)(hn:s∉us):(oa us).lookup (dE s)=none:=Q7 us 0 s hs hu hn
theorem Q8:∀ (us:List Signed) (n:Nat) (s:Signed) (i:Nat),Plain47 s->(∀ x∈us,Plain47 x)->us.Nodup->us[i]?=some s->((us.zipIdx n).map λp=>(dE p.1,Value.int .i64 ((p.2:Nat):Int))).lookup (dE s)=some (.int .i64 ((n+i:Nat):Int))
 | [],_,_,_,_,_,_,h=>by simp at h
 | x::us,n,s,i,hs,hu,hd,h=>by
   rw[List.zipIdx_cons,List.map_cons,List.lookup_cons]
   cases i with
   | zero=>
    have e:x=s:=by simpa using h
    subst e;simp
   | succ i=>
    have h':us[i]?=some s:=by simpa using h
    have hne:(dE s == dE x)=false:=by
     rw[beq_eq_false_iff_ne];intro e
     have:=Fo hs (hu x (by simp)) e
     subst this;exact (List.nodup_cons.1 hd).1 (gQ h')
    rw[hne]
    have:=Q8 us (n+1) s i hs (λy hy=>hu y (mQ _ hy)) (List.nodup_cons.1 hd).2 h'
    rw[show n+(i+1)=n+1+i by omega];exact this
theorem ahQ{us:List Signed}{s:Signed}{i:Nat}(hs:Plain47 s)(hu:∀ x∈us,Plain47 x)(hd:us.Nodup)(h:us[i]?=some s):(oa us).lookup (dE s)=some (.int .i64 ((i:Nat):Int)):=by
 have:=Q8 us 0 s i hs hu hd h
 rwa [Nat.zero_add] at this
def fC(ps:List (Span×Signed)):List (Signed×List Span):=(cj (ps.map (·.2))).map λs=>(s,fd ps s)
theorem amQ(ps:List (Span×Signed)):(fC ps).map (·.1)=cj (ps.map (·.2)):=by
 unfold fC;rw[List.map_map];exact List.map_id'' (λ_=>rfl) _
theorem amZ(f:List Span->List Span)(zone:List UInt8)(ps:List (Span×Signed)):me f zone ps=(fC ps).map λx=>⟨zone,x.1,f x.2,[]⟩:=by
 unfold me fC;rw[List.map_map];rfl
theorem amK{ps:List (Span×Signed)}{p:Span×Signed}(h:p.2∉cj (ps.map (·.2))):fC (ps ++ [p])=fC ps ++ [(p.2,[p.1])]:=by
 have hn:p.2∉ps.map (·.2):=λhm=>h (th.2 hm);unfold fC;rw[List.map_append,List.map_singleton,tt,gS,Qc h,List.map_append];congr 1
 ·refine List.map_congr_left λs hs=>?_;rw[uZ,Qc (show ¬ p.2=s from λe=>h (by rw[e];exact hs))]
 ·simp[uZ,SJ hn]
theorem amX{ps:List (Span×Signed)}{p:Span×Signed}{i:Nat}(h:(cj (ps.map (·.2)))[i]?=some p.2):fC (ps ++ [p])=(fC ps).set i (p.2,fd ps p.2 ++ [p.1]):=by
 obtain⟨hi,he⟩:=cQ.1 h;have hm:p.2∈cj (ps.map (·.2)):=by rw[<-he];exact List.getElem_mem _
 have mg:=xR (ps.map (·.2));have hu:cj ((ps ++ [p]).map (·.2))=cj (ps.map (·.2)):=by rw[List.map_append,List.map_singleton,tt,yO hm]
 refine List.ext_getElem? λj=>?_;rw[List.getElem?_set];unfold fC;rw[hu,List.getElem?_map,List.getElem?_map,List.length_map];by_cases dj:i=j
 ·subst dj;rw[Qb rfl,Qb hi,h,Option.map_some,uZ,Qb rfl]
 ·rw[Qc dj]
  cases hj:(cj (ps.map (·.2)))[j]? with
  | none=>rfl
  | some s=>
   obtain⟨sR,un⟩:=cQ.1 hj;have hne:p.2≠s:=λe=>dj ((List.getElem_inj (h₀:=hi) (h₁:=sR) mg).1 (he.trans (e.trans un.symm)));rw[Option.map_some,Option.map_some,uZ,Qc hne]
theorem amJ(ps:List (Span×Signed)):(fC ps).length=(cj (ps.map (·.2))).length:=List.length_map _
def g8(x:Signed)(drift til:Int):Int:=
 match x.sigs with
 | []=>til - 1+max x.set.life 1+2 * drift
 | g::_=>min (til - 1+max x.set.life 1+2 * drift) (g.til+drift+1)
def gi(x:Signed)(drift:Int)(s:Span):Span:=⟨s.frm,max s.til (g8 x drift s.til)⟩
def ka(x:Held)(drift:Int):List Span:=bT (x.fresh.map (gi x.signed drift))
def pubAll(h:Hist):List Held:=(apexes h.copies).flatMap λz=>pub h.copies z
def bp(h:Hist):List Held:=(pubAll h).map λx=>{ x with spans:=ka x h.drift }
theorem KX{h:Hist}{x:Held} : x∈pubAll h↔∃ z∈apexes h.copies,x∈pub h.copies z:=by
 unfold pubAll;rw[List.mem_flatMap]
def cN(l:List Held)(n:List UInt8)(ty t:Int):List Signed:=cj ((l.filter λx=>(x.signed.set.name == n)&&(decide (x.signed.set.type=ty)&&l1 x.spans t)).map (·.signed))
where l1 (sp:List Span) (t:Int):Bool:=sp.any λs=>decide (s.frm<=t)&&decide (t<s.til)
theorem ahJ{sp:List Span}{t:Int} : cN.l1 sp t=true↔inS sp t:=by
 unfold cN.l1 inS;rw[List.any_eq_true];simp
theorem Rz(c:Copy)(z:List UInt8):(cX [c] z).length=if c.zone.apex=z then c.zone.sets.length else 0:=by
 unfold cX tY;rw[List.filter_cons,List.filter_nil];by_cases h:c.zone.apex=z
 ·have hb:(c.zone.apex == z)=true:=by rw[h];simp
  rw[Qb h,hb,Qb rfl];simp[oe]
 ·have hb:(c.zone.apex == z)=false:=by simpa using h
  rw[Qc h,hb];simp
theorem RA(c:Copy):∀ zs:List (List UInt8),zs.Nodup->(zs.map λz=>(cX [c] z).length).sum<=c.zone.sets.length
 | [],_=>by simp
 | z::zs,h=>by
   obtain⟨h1,h2⟩:=List.nodup_cons.1 h;rw[List.map_cons,List.sum_cons,Rz];by_cases e:c.zone.apex=z
   ·rw[Qb e];have h0:(zs.map λz=>(cX [c] z).length).sum=0:=by
     rw[List.sum_eq_zero_iff_forall_eq_nat];intro n hn;obtain⟨y,hy,rfl⟩:=List.mem_map.1 hn;rw[Rz,Qc (λe2=>h1 (by rw[<-e,e2];exact hy))]
    omega
   ·rw[Qc e,Nat.zero_add];exact RA c zs h2
theorem SE{α:Type}(f g:α->Nat):∀ l:List α,(l.map λx=>f x+g x).sum=(l.map f).sum+(l.map g).sum
 | []=>rfl
 | x::l=>by
   have:=SE f g l
   simp only[List.map_cons,List.sum_cons];omega
theorem Ry{n:Nat} : ∀ (l:List Copy),(∀ c∈l,c.zone.sets.length<=n)->∀ zs:List (List UInt8),zs.Nodup->(zs.map λz=>(cX l z).length).sum<=l.length * n
 | [],_,zs,_=>by
   have:(zs.map λz=>(cX [] z).length).sum=0:=by
    rw[List.sum_eq_zero_iff_forall_eq_nat];intro n hn;obtain⟨y,hy,rfl⟩:=List.mem_map.1 hn;rfl
   omega
 | c::l,h,zs,hz=>by
   have h1:=Ry l (λd hd=>h d (mQ _ hd)) zs hz;have h2:=RA c zs hz;have h3:=h c (by simp);have e:(zs.map λz=>(cX (c::l) z).length)=zs.map λz=>(cX [c] z).length+(cX l z).length:=by
    refine List.map_congr_left λz _=>?_
    have:=FB [c] l z
    rw[List.singleton_append] at this;rw[this,List.length_append]
   rw[e,SE,List.length_cons,Nat.add_mul,Nat.one_mul];omega
theorem avK(l:List Copy)(z:List UInt8):(pub l z).length<=(cX l z).length:=by
 unfold pub;rw[Pv]
 have:=tr ((cX l z).map (·.2))
 rwa [List.length_map] at this
theorem SF{α:Type}{f g:α->Nat}(h:∀ x,f x<=g x):∀ l:List α,(l.map f).sum<=(l.map g).sum
 | []=>bQ _
 | x::l=>by
   have:=SF h l
   have:=h x
   simp only[List.map_cons,List.sum_cons];omega
theorem VL(l:List Copy):(apexes l).Nodup:=by
 unfold apexes;exact (FY _).nodup_iff.2 (xR _)
def pubTo(h:Hist)(k:Nat):List Held:=((apexes h.copies).take k).flatMap λz=>pub h.copies z
theorem RI{h:Hist}{k:Nat}{z:List UInt8}(hz:(apexes h.copies)[k]?=some z):pubTo h (k+1)=pubTo h k++pub h.copies z:=by
 obtain⟨hl,he⟩:=cQ.1 hz;unfold pubTo;rw[fQ hl,he,List.flatMap_append];simp
theorem K2{h:Hist}{k:Nat}(hk:(apexes h.copies).length<=k):pubTo h k=pubAll h:=by
 unfold pubTo pubAll;rw[kQ hk]
theorem RH{h:Hist}{n m:Nat}(hn:∀ c∈h.copies,c.zone.sets.length<=n)(hm:h.copies.length<=m)(k:Nat):(pubTo h k).length<=m * n:=by
 unfold pubTo;rw[List.length_flatMap];refine yQ (SF (λz=>avK h.copies z) _) (yQ (Ry h.copies hn _ ((VL _).sublist (List.take_sublist _ _))) (Nat.mul_le_mul_right n hm))
theorem auX{h:Hist}{n m:Nat}(hn:∀ c∈h.copies,c.zone.sets.length<=n)(hm:h.copies.length<=m):(pubAll h).length<=m * n:=by
 rw[<-K2 (bQ _)];exact RH hn hm _
def oW(d:Int)(l:List Held)(k:Nat):List Held:=(l.take k).map (λx=>{ x with spans:=ka x d })++l.drop k
theorem VC(d:Int)(l:List Held)(k:Nat):(oW d l k).length=l.length:=by
 unfold oW;rw[List.length_append,List.length_map,<-List.length_append,List.take_append_drop]
theorem NK{d:Int}{l:List Held}{k:Nat}{x:Held}(hx:l[k]?=some x):(oW d l k)[k]?=some x:=by
 have hl:=(cQ.1 hx).1;unfold oW;rw[oQ (by simp;omega),List.length_map,List.length_take,Nat.min_eq_left (by omega),Nat.sub_self,List.getElem?_drop,Nat.add_zero];exact hx
theorem VD{d:Int}{l:List Held}{k:Nat}{x:Held}(hx:l[k]?=some x):(oW d l k).set k { x with spans:=ka x d } = oW d l (k+1):=by
 obtain⟨hl,he⟩:=cQ.1 hx;unfold oW;have hn:((l.take k).map λx:Held=>{ x with spans:=ka x d }).length=k:=by simp;omega
 rw[List.set_append_right _ _ (by omega),hn,Nat.sub_self,fQ hl,he,List.map_append,List.append_assoc];congr 1;rw[<-List.getElem_cons_drop hl,he];rfl
theorem VB{h:Hist}{k:Nat}(hk:(pubAll h).length<=k):oW h.drift (pubAll h) k=bp h:=by
 unfold oW bp;rw[kQ hk,List.drop_of_length_le hk,List.append_nil]
structure Ent22 where
 signed:Signed
 zone:List UInt8
 til:Int
deriving DecidableEq
def QOk(n:List UInt8)(ty:Int):Prop:=aD n=true/\1<=ty/\ty<=8
def wd(t:Int):Prop:=0<=t/\t<=20000000
noncomputable def nF(h:Hist):Int×List Held:=if yes (VHist h) then (0,bp h) else (1,[])
theorem we{h:Hist}(k:VHist h):nF h=(0,bp h):=by unfold nF;rw[bh k];rfl
theorem IH{h:Hist}(k:¬ VHist h):nF h=(1,[]):=by unfold nF;rw[aF k];rfl
def DS(h:Hist)(n:List UInt8)(ty t:Int):Prop:=VHist h/\QOk n ty/\wd t
noncomputable def mV(h:Hist)(n:List UInt8)(ty t:Int):Int×List Signed:=if yes (DS h n ty t) then (0,cN (bp h) n ty t) else (1,[])
theorem K0{h:Hist}{n:List UInt8}{ty t:Int}(k:DS h n ty t):mV h n ty t=(0,cN (bp h) n ty t):=by unfold mV;rw[bh k];rfl
theorem xU{h:Hist}{n:List UInt8}{ty t:Int}(k:¬ DS h n ty t):mV h n ty t=(1,[]):=by unfold mV;rw[aF k];rfl
def CT(a b:Ent22):Prop:=a.signed.set.name=b.signed.set.name/\a.signed.set.type=b.signed.set.type/\a.zone=b.zone
structure EntOk(e:Ent22):Prop where
 name:aD e.signed.set.name=true
 zone:aD e.zone=true
 wild:eD e.zone=false
 under:bD e.signed.set.name e.zone=true
 til:1<=e.til/\e.til<=20100001
 kind:(e.signed.set.data = []/\(1<=e.signed.set.type/\e.signed.set.type<=8)/\(0<=e.signed.set.life/\e.signed.set.life<=100000)/\e.signed.sigs = [])\/(e.signed.set.data≠[]/\cZ e.signed.set=true/\eK e.zone e.signed.sigs)
structure VCache(l:List Ent22):Prop where
 few:l.length<=400
 each:∀ e∈l,EntOk e
 apart:l.Pairwise λa b=>¬ CT a b
theorem VCache.sub{l m:List Ent22}(h:VCache l)(hm:m.Sublist l):VCache m:=
 ⟨yQ hm.length_le h.few,λe he=>h.each e (hm.subset he),h.apart.sublist hm⟩
def pp(l:List Held)(z:List UInt8)(s:Signed)(t:Int):Bool:=l.any λx=>decide (x.zone=z)&&(decide (x.signed=s)&&cN.l1 x.spans t)
def iu(l:List Held)(t:Int)(e:Ent22):Bool:=e.signed.set.data.isEmpty||(decide (e.til<=t)||pp l e.zone e.signed t)
def rc(l:List Held)(c:List Ent22)(t:Int):Bool:=c.all (iu l t)
def Dg(h:Hist)(c:List Ent22)(t:Int):Prop:=VHist h/\VCache c/\wd t
noncomputable def pX(h:Hist)(c:List Ent22)(t:Int):Int×Bool:=if yes (Dg h c t) then (0,rc (bp h) c t) else (1,false)
theorem NM{h:Hist}{c:List Ent22}{t:Int}(k:Dg h c t):pX h c t=(0,rc (bp h) c t):=by unfold pX;rw[bh k];rfl
theorem wg{h:Hist}{c:List Ent22}{t:Int}(k:¬ Dg h c t):pX h c t=(1,false):=by unfold pX;rw[aF k];rfl
def sr(l:List Held)(n:List UInt8)(ty:Int):List Signed:=(l.filter λx=>(x.signed.set.name == n)&&decide (x.signed.set.type=ty)).map (·.signed)
theorem IM{l:List Held}{n:List UInt8}{ty:Int}{x:Held} : sr (l ++ [x]) n ty=if x.signed.set.name=n/\x.signed.set.type=ty then sr l n ty ++ [x.signed] else sr l n ty:=by
 unfold sr;rw[List.filter_append,List.map_append];by_cases h:x.signed.set.name=n/\x.signed.set.type=ty
 ·have hb:((x.signed.set.name == n)&&decide (x.signed.set.type=ty))=true:=by simp[h.1,h.2]
  rw[Qb h,List.filter_cons,Qb hb];rfl
 ·have hb:((x.signed.set.name == n)&&decide (x.signed.set.type=ty))=false:=by
   rw[Bool.eq_false_iff];intro e;rw[Bool.and_eq_true,beq_iff_eq,Qa] at e;exact h e
  rw[Qc h,List.filter_cons,Qc (by rw[hb];decide)];simp
theorem asQ(l:List Held)(n:List UInt8)(ty t:Int):cN l n ty t=cj (sr (l.filter λx=>cN.l1 x.spans t) n ty):=by
 unfold cN sr;rw[List.filter_filter];congr 2;refine List.filter_congr λx _=>?_;rw[Bool.and_assoc]
theorem RC(l:List Held)(n:List UInt8)(ty t:Int):(cN l n ty t).length<=l.length:=by
 unfold cN;have h:=tr ((l.filter λx=>(x.signed.set.name == n)&&(decide (x.signed.set.type=ty)&&cN.l1 x.spans t)).map (·.signed));rw[List.length_map] at h;exact yQ h (List.length_filter_le _ _)
def mS(us:List Signed):List (List UInt8×Value):=us.map λs=>(dE s,.bool true)
theorem ahZ(us:List Signed)(s:Signed):mS (us ++ [s])=mS us ++ [(dE s,.bool true)]:=by simp[mS]
theorem Q5:∀ {us:List Signed} {s:Signed},Plain47 s->(∀ x∈us,Plain47 x)->s∉us->(mS us).lookup (dE s)=none
 | [],_,_,_,_=>rfl
 | x::us,s,hs,hu,hn=>by
   have e:mS (x::us)=(dE x,.bool true)::mS us:=rfl;have hne:(dE s == dE x)=false:=beq_eq_false_iff_ne.2 λh=>hn (by rw[Fo hs (hu x (by simp)) h];simp);rw[e,List.lookup_cons,hne];exact Q5 hs (λy hy=>hu y (mQ _ hy)) (λh=>hn (mQ _ h))
theorem Q6:∀ {us:List Signed} {s:Signed},s∈us->(mS us).lookup (dE s)=some (.bool true)
 | [],_,h=>by cases h
 | x::us,s,h=>by
   have e:mS (x::us)=(dE x,.bool true)::mS us:=rfl;rw[e,List.lookup_cons];by_cases hk:(dE s == dE x)=true
   ·rw[hk]
   ·rw[Bool.not_eq_true] at hk;rw[hk];refine Q6 ((List.mem_cons.1 h).resolve_left ?_);rintro rfl;simp at hk
theorem Rq{l:List Span}{a b:Int}(hf:∀ s∈l,s.frm<s.til)(h:a<b)(ht:∀ t,(a<=t/\t<b)↔inS l t):bT l = [⟨a,b⟩]:=by
 refine (Fy hf ⟨λs hs=>?_,List.pairwise_singleton _ _⟩ λt=>?_).symm
 ·rw[List.mem_singleton] at hs;subst hs;exact h
 ·rw[<-ht t];simp[inS]
end Np
section
open Go.RowKit
theorem Sk(x y:Np.Signed)(s1 s2:ByteArray)(h1:s1.data.toList=x.set.name)(h2:s2.data.toList=y.set.name)(v1 u1 v2 u2:Value)(w:World)(gu:SlR bR 3 w w.heap.size v1 x.set.data)(rt:SlR cS 6 w w.heap.size u1 x.sigs)(jr:SlR bR 3 w w.heap.size v2 y.set.data)(uk:SlR cS 6 w w.heap.size u2 y.sigs) :
 Calls prog 20 #[.agg #[.string s1,.int .i64 x.set.type,.int .i64 x.set.life,v1,u1],.agg #[.string s2,.int .i64 y.set.type,.int .i64 y.set.life,v2,u2]] w (a0X w.heap.size w (.bool (decide (x=y)))):=by
 refine (FU s1 s2 _ _ _ _ v1 v2 u1 u2 _ _ _ _ w gu jr rt uk).mono λe w' ⟨he,hb⟩=>⟨he.trans ?_,hb⟩;congr 2;rw[decide_eq_decide];obtain⟨⟨nx,tx,lx,dx⟩,gx⟩:=x;obtain⟨⟨ny,ty,ly,dy⟩,gy⟩:=y;dsimp only at h1 h2 |-;simp only[Np.Signed.mk.injEq,Np.DSet.mk.injEq];refine and_congr (and_congr ⟨λh=>by rw[<-h1,<-h2,h],λh=>j9 (by rw[h1,h2,h])⟩ Iff.rfl) Iff.rfl
theorem Wq(a:ByteArray)(v:Value)(l:List Np.Sig)(w:World)(h:SlR cS 6 w w.heap.size v l) :
 Calls prog 221 #[v,.string a] w (a0X w.heap.size w (.bool (Np.yes (Np.eK a.data.toList l)))):=by
 obtain⟨r,hr⟩:=acJ (Np.yes (Np.eK a.data.toList l));rw[hr];have HR:=jq hr;have H:=jq h;obtain⟨A,c,rfl,bq,bM⟩:=ak h;clear h hr;by_cases h6:l.length<=6
 ·have H6:=jq h6;go_enter func221,ntmps221;go_wp2_with fail;go_loopw [12] (λi wr=>∃ k:Nat,k<=l.length/\i = .int .i64 k/\Hid (Below w.heap.size w wr)/\Hid (∀ j g,j<k->l[j]?=some g->Np.SigOk a.data.toList l j g)) (λi _=>l.length - (intOf i).toNat)
  case atStart=>exact⟨0,jQ _,rfl,jq (vQ _ _),jq (λj g hj=>by omega)⟩
  case round=>
   obtain⟨k,hk,rfl,HB,HA⟩:=hrel;by_cases ab:k<l.length
   ·have cx:=H.out.keep cg HB.out;have aa:=aQ ab;obtain⟨b,o,c',s,hA,bA,hs,an,e0,e1,e2,e3,e4,e5⟩:=mr cx aa
    cases hA
    have qw:=aQ (show 0<l.length by omega);obtain⟨b',o',c'',s',hA,_,_,_,_,z1,z2,z3,z4,_⟩:=mr cx qw;simp only[Value.slice.injEq,Option.some.injEq,Addr.mk.injEq,and_true,true_and] at hA;obtain⟨⟨rfl,rfl⟩,-⟩:=hA;simp only[Nat.zero_mul,Nat.add_zero] at z3 z4;have HN:Hid (∀ h:Np.SigOk a.data.toList l k l[k],∀ j g,j<k+1->l[j]?=some g->Np.SigOk a.data.toList l j g):=jq (λh=>Lg aa HA.out h);have HF:Hid (¬ Np.SigOk a.data.toList l k l[k]->r=false):=jq (λh=>HR.out ▸ KL aa h);have HZ:=jq qw;have lW:=jq aa;have HS:=jq hs;have qg:=HB.out.size;have uf:b<wr.heap.size:=by omega
    have aY:Hid (∀ o n,Below w.heap.size w ((wr.alloc o).drewN n)):=jq (λo n=>below_drewN (HB.out.alloc HB.out.size _) _);have nf:Hid (∀ o,Below w.heap.size w (wr.alloc o)):=jq (λo=>(HB.out.alloc HB.out.size _));have bJ:(0:Int)<=(k:Int):=by omega
    have bI:(k:Int)<(l.length:Int):=by omega
    have bd:(0:Int)<(l.length:Int):=by omega
    have AM:Hid (∀ m,k=m+1->∃ y,l[m]?=some y/\wr.cell? ⟨b,o+m * 6+1,none⟩=some (.int .i64 y.key)):=jq (λm hm=>by
     obtain⟨b2,o2,c2,s2,hA,_,_,_,_,y1,_⟩:=mr cx (aQ (show m<l.length by omega));simp only[Value.slice.injEq,Option.some.injEq,Addr.mk.injEq,and_true,true_and] at hA;obtain⟨⟨rfl,rfl⟩,-⟩:=hA;exact⟨_,aQ (by omega),y1⟩)
    generalize l[k]=x at *;generalize l[0]=x0 at *;clear cx hs aa qw z1 z2;have mF:((!s.toList == a.toList)=true)\/(!s.toList == a.toList)=false/\(decide (x.key<1)=true\/decide (x.key<1)=false/\(decide (1000000<x.key)=true\/decide (1000000<x.key)=false/\(decide (x.alg<1)=true\/decide (x.alg<1)=false/\(decide (3<x.alg)=true\/decide (3<x.alg)=false)))):=by
     simp only[Qa,decide_eq_false_iff_not];by_cases q:s.toList=a.toList
     ·simp[q];omega
     ·exact .inl (by simpa using q)
    rcases mF with d1 | ⟨d1,d2 | ⟨d2,d3 | ⟨d3,d4 | ⟨d4,d5 | d5⟩⟩⟩⟩
    rotate_right
    ·by_cases gX:k=0
     ·have ea:x0=x:=by
       have h1:=HZ.out;rw[<-gX,lW.out] at h1;exact (Option.some.inj h1).symm
      have jP:decide ((0:Int)<(k:Int))=false:=by simp;omega
      have jt:decide (0<k)=false:=by simp;omega
      have c1:(x.frm != x0.frm)=false:=by rw[ea];simp
      have c2:(x.til != x0.til)=false:=by rw[ea];simp
      have Nk:=jq ea;have rX:=jq gX;clear gX ea;have JF:(decide (x.frm<0)=true)\/decide (x.frm<0)=false/\(decide (x.til<x.frm)=true\/decide (x.til<x.frm)=false/\(decide (20000000<x.til)=true\/decide (20000000<x.til)=false)):=by
       simp only[Qa,decide_eq_false_iff_not];omega
      rcases JF with d6 | ⟨d6,d7 | ⟨d7,d8 | d8⟩⟩
      rotate_right
      ·have bH:Hid (Np.SigOk a.data.toList l k x):=jq (by
        have e1:s.toList=a.toList:=by simpa using d1
        rw[dQ,dQ] at e1;simp only[decide_eq_false_iff_not] at d2 d3 d4 d5 d6 d7 d8;refine⟨by rw[<-HS.out,e1],by omega,by omega,by omega,λq hq=>?_,λp _ h0=>by have:=rX.out;omega⟩;rw[HZ.out] at hq;cases hq;rw[Nk.out];exact⟨rfl,rfl⟩)
       go_wp2_with fail;go_quiet (fail);go_wp2_with fail;go_roundw
       case rel=>exact⟨k+1,by omega,by go_num,jq (aY.out _ _),jq (HN.out bH.out)⟩
       case measure=>simp[intOf] <;> omega
      all_goals
       go_wp2_with fail;go_quiet (fail);go_wp2_with fail;go_ret;refine⟨ag (HF.out ?_).symm,aY.out _ _⟩;intro ew;obtain⟨k1,k2,k3,k4,_,_⟩:=ew;simp only[Qa,decide_eq_false_iff_not] at *;omega
     ·obtain⟨m,rfl⟩:∃ m,k=m+1:=⟨k - 1,by omega⟩;obtain⟨y,hy,y1⟩:=AM.out m rfl;have HY:=jq hy;have jP:decide ((0:Int)<((m+1:Nat):Int))=true:=by simp
      have ah:IntKind.i64.wrap (((m+1:Nat):Int) - 1)=(m:Int):=by rw[IntWalk.i64_in _ (by omega)];omega
      have la:(0:Int)<=(m:Int):=by omega
      have ru:(m:Int)<(l.length:Int):=by omega
      have JE:((x.frm != x0.frm)=true)\/(x.frm != x0.frm)=false/\((x.til != x0.til)=true\/(x.til != x0.til)=false/\(decide (x.key<=y.key)=true\/decide (x.key<=y.key)=false)):=by
       simp only[bne_iff_ne,bne_eq_false_iff_eq,Qa,decide_eq_false_iff_not];omega
      clear hy gX;rcases JE with c1 | ⟨c1,c2 | ⟨c2,c3 | c3⟩⟩
      rotate_right
      ·have JF:(decide (x.frm<0)=true)\/decide (x.frm<0)=false/\(decide (x.til<x.frm)=true\/decide (x.til<x.frm)=false/\(decide (20000000<x.til)=true\/decide (20000000<x.til)=false)):=by
        simp only[Qa,decide_eq_false_iff_not];omega
       rcases JF with d6 | ⟨d6,d7 | ⟨d7,d8 | d8⟩⟩
       rotate_right
       ·have bH:Hid (Np.SigOk a.data.toList l (m+1) x):=jq (by
         have e1:s.toList=a.toList:=by simpa using d1
         rw[dQ,dQ] at e1;simp only[decide_eq_false_iff_not,bne_eq_false_iff_eq] at d2 d3 d4 d5 d6 d7 d8 c1 c2 c3;refine⟨by rw[<-HS.out,e1],by omega,by omega,by omega,λq hq=>?_,λp hp h0=>?_⟩
         ·rw[HZ.out] at hq;cases hq;exact⟨c1,c2⟩
         ·rw[show m+1 - 1=m by omega,HY.out] at hp;cases hp;omega)
        go_wp2_with fail;go_quiet (fail);go_wp2_with fail;go_roundw
        case rel=>exact⟨m+1+1,by omega,by go_num,jq (aY.out _ _),jq (HN.out bH.out)⟩
        case measure=>simp[intOf] <;> omega
       all_goals
        go_wp2_with fail;go_quiet (fail);go_wp2_with fail;go_ret;refine⟨ag (HF.out ?_).symm,aY.out _ _⟩;intro ew;obtain⟨k1,k2,k3,k4,_,_⟩:=ew;simp only[Qa,decide_eq_false_iff_not] at *;omega
      all_goals
       go_wp2_with fail;go_quiet (fail);go_wp2_with fail;go_ret;refine⟨ag (HF.out ?_).symm,aY.out _ _⟩;intro ew;have k5:=ew.same _ HZ.out;have k6:=ew.up _ HY.out (by omega);simp only[bne_iff_ne,bne_eq_false_iff_eq,Qa,decide_eq_false_iff_not] at *;omega
    all_goals
     go_wp2_with fail;go_ret;refine⟨ag (HF.out ?_).symm,nf.out _⟩;intro ew;obtain⟨k1,k2,k3,k4,_,_⟩:=ew
     first
      | (rw[dQ,dQ,HS.out,k1] at d1;simp at d1;done)
      | (simp only[Qa,decide_eq_false_iff_not] at *;omega)
   ·go_wp2_with fail;go_ret;refine⟨ag ?_,HB.out⟩;rw[<-HR.out];exact (Np.bh ⟨H6.out,λj g hg=>HA.out j g (by have:=(cQ.1 hg).1;omega) hg⟩).symm
 ·have h6':6<l.length:=by omega
  have HF:Hid (r=false):=jq (by rw[<-HR.out];exact Np.aF λhf=>h6 hf.1);clear h6;go_enter func221,ntmps221;go_wp2_with fail;go_ret;exact⟨ag HF.out.symm,vQ _ _⟩
end
namespace Np
def hxN:Signed:=⟨⟨[120],2,0,[⟨[97],0,0⟩]⟩,[]⟩
def hxS:Signed:=⟨⟨[120],4,0,[⟨[],1,0⟩]⟩,[]⟩
def hxW(life:Int)(sg:List Sig):Signed:=⟨⟨[119,46,120],1,life,[⟨[],7,0⟩]⟩,sg⟩
def hxZ(life:Int)(sg:List Sig):Zone:=⟨[120],[hxN,hxS,hxW life sg]⟩
def hxC(life:Int)(sg:List Sig):List Copy:=[⟨0,0,20,hxZ life sg⟩]
def hxH(life:Int)(sg:List Sig):Hist:=⟨[⟨[97],1,0⟩],hxC life sg,⟨[46],6,0,[⟨[],1,1⟩]⟩,[1],2,50⟩
def hxG:Sig:=⟨[120],1,1,0,25,0⟩
def nD(life:Int)(sg:List Sig):Prop:=(life=10/\sg = [])\/(life=10/\sg = [hxG])\/(life=0/\sg = [])
theorem abK{life:Int}{sg:List Sig}(h:nD life sg):fK (hxZ life sg)=true:=by
 rcases h with ⟨rfl,rfl⟩ | ⟨rfl,rfl⟩ | ⟨rfl,rfl⟩ <;> decide
theorem aaX{life:Int}{sg:List Sig}(h:nD life sg):eM (hxZ life sg) = [[],[],[]]:=by
 rcases h with ⟨rfl,rfl⟩ | ⟨rfl,rfl⟩ | ⟨rfl,rfl⟩ <;> decide
theorem abX{life:Int}{sg:List Sig}(h:nD life sg):VZone (hxZ life sg):=by
 have hb:=aaX h;refine⟨abK h,by simp[hxZ],⟨hxS,by simp[hxZ],rfl,rfl⟩,⟨hxN,by simp[hxZ],rfl,rfl⟩,λx hx=>?_,λi hi ht=>?_,λi hi ht=>?_,λi x b hx dP=>?_,λi x b hx dP=>?_,λx hx=>?_⟩
 ·simp only[hxZ,List.mem_cons,Qh,or_false] at hx;rcases hx with rfl | rfl | rfl <;> rfl
 ·match i,hi with
  | 0,_=>exact absurd ht (by simp[hxZ,hxS])
  | 1,_=>exact absurd ht (by simp[hxZ,hxW])
  | i+2,hi=>exact absurd hi (by simp[hxZ])
 ·match i,hi with
  | 0,_=>exact absurd ht (by simp[hxZ,hxN])
  | 1,_=>exact absurd ht (by simp[hxZ,hxS])
  | i+2,hi=>exact absurd hi (by simp[hxZ])
 ·rw[hb] at dP
  match i,hx,dP with
  | 0,hx,dP=>simp[hxZ] at hx dP;subst hx;subst dP;simp[kI,hxN]
  | 1,hx,dP=>simp[hxZ] at hx dP;subst hx;subst dP;simp[kI,hxS]
  | 2,hx,dP=>simp[hxZ] at hx dP;subst hx;subst dP;simp[kI,hxW]
  | i+3,hx,dP=>simp[hxZ] at hx
 ·rw[hb] at dP
  match i,hx,dP with
  | 0,hx,dP=>simp at dP;subst dP;intro h;exact absurd rfl h
  | 1,hx,dP=>simp at dP;subst dP;intro h;exact absurd rfl h
  | 2,hx,dP=>simp at dP;subst dP;intro h;exact absurd rfl h
  | i+3,hx,dP=>simp[hxZ] at hx
 ·simp only[hxZ,List.mem_cons,Qh,or_false] at hx;rcases hx with rfl | rfl | rfl
  ·exact⟨by decide,λi g hg=>by simp[hxN] at hg⟩
  ·exact⟨by decide,λi g hg=>by simp[hxS] at hg⟩
  ·rcases h with ⟨rfl,rfl⟩ | ⟨rfl,rfl⟩ | ⟨rfl,rfl⟩
   ·exact⟨by decide,λi g hg=>by simp[hxW] at hg⟩
   ·refine⟨by decide,λi g hg=>?_⟩
    match i,hg with
    | 0,hg=>
     simp[hxW] at hg;subst hg;exact⟨rfl,by decide,by decide,by decide,λa ha=>by simp[hxW] at ha;subst ha;exact⟨rfl,rfl⟩,λp _ h=>absurd h (by decide)⟩
    | i+1,hg=>simp[hxW] at hg
   ·exact⟨by decide,λi g hg=>by simp[hxW] at hg⟩
theorem QL{life:Int}{sg:List Sig}(h:nD life sg):VHist (hxH life sg):=by
 refine⟨by simp[hxH],by simp[hxH],⟨by simp[hxH],λx hx=>?_,by simp[hxH]⟩,⟨by show cZ ⟨[46],6,0,[⟨[],1,1⟩]⟩=true;decide,rfl,rfl,by simp[hxH],λn hn=>?_⟩,λc hc=>?_,List.pairwise_singleton _ _⟩
 ·simp only[hxH,List.mem_cons,Qh,or_false] at hx;subst hx;exact⟨by decide,by decide,by decide,by decide⟩
 ·simp only[hxH,List.mem_cons,Qh,or_false] at hn;subst hn;decide
 ·simp only[hxH,hxC,List.mem_cons,Qh,or_false] at hc;subst hc;exact⟨by simp[hxH],by simp[hxH],abX h⟩
theorem aaK(life:Int)(sg:List Sig):apexes (hxC life sg) = [[120]]:=by
 rw[<-IK];rfl
theorem abJ{life:Int}{sg:List Sig}(h:nD life sg):pub (hxC life sg) [120] = [⟨[120],hxN,[⟨0,20⟩],[]⟩,⟨[120],hxS,[⟨0,20⟩],[]⟩,⟨[120],hxW life sg,[⟨0,20⟩],[]⟩]:=by
 have h1:bT [⟨0,20⟩] = [⟨0,20⟩]:=Rq (by simp) (by decide) (λt=>by simp[inS]);rw[<-h1];rcases h with ⟨rfl,rfl⟩ | ⟨rfl,rfl⟩ | ⟨rfl,rfl⟩ <;> rfl
theorem LB{x:Held}{d b e:Int}(hf:x.fresh = [⟨0,b⟩])(hb:0<b)(he:max b (g8 x.signed d b)=e):ka x d = [⟨0,e⟩]:=by
 unfold ka;rw[hf];have hs:gi x.signed d ⟨0,b⟩=⟨0,e⟩:=by unfold gi;rw[<-he]
 rw[List.map_cons,List.map_nil,hs];exact Rq (by intro s hs;rw[List.mem_singleton] at hs;subst hs;show (0:Int)<e;omega) (by omega) (λt=>by simp[inS])
theorem QJ{life:Int}{sg:List Sig}(h:nD life sg){e:Int}(he:max 20 (g8 (hxW life sg) 2 20)=e):bp (hxH life sg) = [⟨[120],hxN,[⟨0,20⟩],[⟨0,24⟩]⟩,⟨[120],hxS,[⟨0,20⟩],[⟨0,24⟩]⟩,⟨[120],hxW life sg,[⟨0,20⟩],[⟨0,e⟩]⟩]:=by
 unfold bp pubAll;rw[show (hxH life sg).copies=hxC life sg from rfl,aaK,List.flatMap_cons,List.flatMap_nil,List.append_nil,abJ h];simp only[List.map_cons,List.map_nil];rw[LB (d:=(hxH life sg).drift) (b:=20) (e:=24) rfl (by decide) (by rfl),LB (d:=(hxH life sg).drift) (b:=20) (e:=24) rfl (by decide) (by rfl),LB (d:=(hxH life sg).drift) (b:=20) (e:=e) rfl (by decide) he]
theorem abZ{life:Int}{sg:List Sig}(h:nD life sg){e:Int}(he:max 20 (g8 (hxW life sg) 2 20)=e)(t:Int):cN (bp (hxH life sg)) [119,46,120] 1 t=if 0<=t/\t<e then [hxW life sg] else []:=by
 rw[QJ h he];unfold cN;have h1:(hxN.set.name == ([119,46,120]:List UInt8))=false:=by decide
 have h2:(hxS.set.name == ([119,46,120]:List UInt8))=false:=by decide
 have h3:((hxW life sg).set.name == ([119,46,120]:List UInt8))=true:=rfl;have h4:decide ((hxW life sg).set.type=1)=true:=rfl;have h5:cN.l1 [⟨0,e⟩] t=decide (0<=t/\t<e):=by
  rw[Bool.eq_iff_iff,ahJ,Qa];simp[inS]
 simp only[List.filter_cons,List.filter_nil,h1,h2,h3,h4,h5,Bool.false_and,Bool.true_and,Qa,Bool.false_eq_true,if_false];split <;> rfl
theorem QK:max 20 (g8 (hxW 10 []) 2 20)=33:=by rfl
theorem aaY:max 20 (g8 (hxW 10 [hxG]) 2 20)=28:=by rfl
theorem abQ:max 20 (g8 (hxW 0 []) 2 20)=24:=by rfl
end Np
end Go.Proofs.YtfnopgdcaanaiaaGreatDoor
