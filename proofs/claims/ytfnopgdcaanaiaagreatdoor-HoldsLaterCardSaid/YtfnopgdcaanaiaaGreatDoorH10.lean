/- Parts of the proof. No condition. -/
import Derived.Shelf.SlSortCmp.NoneTotal
import Derived.Laws.OwnMore
import Derived.Test.YtfnopgdcaanaiaaGreatDoorH06
set_option linter.all false
set_option maxRecDepth 100000
set_option maxHeartbeats 8000000
namespace Go.Proofs.YtfnopgdcaanaiaaGreatDoor
open Go.Proofs.Tryz
section
open Go.RowKit Go.Shelf
section
variable {α:Type}
def kW(p:α->Bool):List α->Int
 | []=>-1
 | x::xs=>if p x then 0 else if kW p xs = -1 then -1 else kW p xs+1
theorem JU(p:α->Bool)(xs:List α)(h:∀ x∈xs,p x=false):kW p xs = -1:=by
 induction xs with
 | nil=>rfl
 | cons x r ih=>rw[kW,Qc (by simp[h x (by simp)]),Qb (ih (λy hy=>h y (by simp[hy])))]
theorem JS(p:α->Bool)(xs:List α)(k:Nat)(hk:k<xs.length)(h:∀ x∈xs.take k,p x=false)(hx:p xs[k]=true):kW p xs=k:=by
 induction xs generalizing k with
 | nil=>simp at hk
 | cons x r ih=>
  cases k with
  | zero=>simp at hx;simp[kW,hx]
  | succ k=>
   have h0:p x=false:=h x (by simp)
   have:=ih k (by simpa using hk) (λy hy=>h y (by simp[hy])) (by simpa using hx)
   rw[kW,Qc (by simp[h0]),Qc (by omega),this];simp
theorem JT(p:α->Bool)(xs:List α):decide (0<=kW p xs)=xs.any p:=by
 induction xs with
 | nil=>rfl
 | cons x r ih=>
  rw[kW];by_cases h:p x=true
  ·simp[h]
  ·rw[Qc h];have h':p x=false:=by simpa using h
   rw[List.any_cons,h',Bool.false_or,<-ih];split
   ·rename_i e;rw[e]
   ·rename_i e;have : -1<=kW p r:=by
     clear ih h h' e
     induction r with
     | nil=>simp[kW]
     | cons y r ih2=>rw[kW];split;omega;split <;> omega
    rw[Bool.eq_iff_iff];simp;omega
def Jc(R:World->Nat->List Value->α->Prop)(B:Nat)(w:World)(f:FuncId)(cap:Array Value)(p:α->Bool)(xs:List α):Prop:=
 ∀ (W:World) (x:α) (e0 e1:Value),x∈xs->Below B w W->B<=W.heap.size->R W B [e0,e1] x->Calls prog f (#[.agg #[e0,e1]]++cap) W λe w'=>e = .returned (.bool (p x))/\Below W.heap.size W w'
theorem VK{R:World->Nat->List Value->α->Prop}(hK:cY R)(f:FuncId)(eg:∀ args w,(callFunc f args).run prog w = .ok (.enter f args) w)(cap:Array Value)(p:α->Bool)(v:Value)(xs:List α)(w:World)(B:Nat)(hB:B<=w.heap.size)(h:SlR R 2 w B v xs)
 (hp:Jc R B w f cap p xs) :
 Calls prog 166 #[v,.func (.func f) #[] cap] w λe w'=>e = .returned (.int .i64 (kW p xs))/\Below w.heap.size w w':=by
 have H:=jq h;have HP:=jq hp;obtain⟨A,c,rfl,bw,bT,jy⟩:=h;clear jy hp;go_enter func166,ntmps166;go_wp2_with fail;go_loopw [8] (λi wr=>∃ k:Nat,k<=xs.length/\i = .int .i64 k/\Below w.heap.size w wr/\Hid (∀ x∈xs.take k,p x=false)) (λi _=>xs.length - (intOf i).toNat)
 case atStart=>exact⟨0,jQ _,rfl,vQ _ _,jq (by simp)⟩
 case round=>
  obtain⟨k,hk,rfl,hb,HA⟩:=hrel;by_cases aa:k<xs.length
  ·have bJ:=hb.mono hB;obtain⟨A',c',hA',_,_,bK⟩:=H.out.keep hK bJ
   cases hA'
   obtain⟨b,o,e,rfl,bG,hlen,hce,hR⟩:=bK k _ (aQ aa)
   match e,hlen with
   | [e0,e1],_=>
   have h0:wr.cell? ⟨b,o+k * 2,none⟩=some e0:=hce 0 _ rfl;have h1:wr.cell? ⟨b,o+k * 2+1,none⟩=some e1:=hce 1 _ rfl;have cC:=HP.out wr xs[k] e0 e1 (List.getElem_mem aa) bJ (by have:=hb.size;omega) hR;have HC:=jq cC;have jI:=jq hb;clear bK hce hR cC bJ hb;go_wp2_with (fail);refine HC.out.mono ?_;rintro e w2 ⟨rfl,ac⟩;have aj:=jq ac;clear ac;by_cases bp:p xs[k]=true
   ·have HX:=jq bp;go_wp2_with (fail);go_ret;exact⟨iv (JS p xs k aa HA.out HX.out).symm,jI.out.trans (aj.out.mono jI.out.size)⟩
   ·have BN:p xs[k]=false:=by simpa using bp
    have HX:=jq BN;clear bp;go_wp2_with (fail);go_roundw
    case rel=>
     refine⟨k+1,by omega,by go_num,jI.out.trans (aj.out.mono jI.out.size),jq ?_⟩;rw[fQ aa];intro x hx;rcases List.mem_append.1 hx with h | h
     ·exact HA.out x h
     ·simp at h;subst h;exact HX.out
    case measure=>simp[intOf] <;> omega
  ·go_wp2_with fail;go_ret;exact⟨iv (JU p xs (by have:=HA.out;rwa [kQ (by omega)] at this)).symm,hb⟩
theorem RM{R:World->Nat->List Value->α->Prop}(hK:cY R)(f:FuncId)(eg:∀ args w,(callFunc f args).run prog w = .ok (.enter f args) w)(cap:Array Value)(p:α->Bool)(v:Value)(xs:List α)(w:World)(B:Nat)(hB:B<=w.heap.size)(h:SlR R 2 w B v xs)
 (hp:Jc R B w f cap p xs) :
 Calls prog 93 #[v,.func (.func f) #[] cap] w λe w'=>e = .returned (.bool (xs.any p))/\Below w.heap.size w w':=by
 have H:=jq h;have HP:=jq hp;have HE:=jq eg;clear h hp eg;go_enter func93,ntmps93;go_wp2_with (go_at_call 166;refine (VK hK f HE.out cap p v xs w B hB H.out HP.out).mono ?_;rintro e w' ⟨rfl,hb⟩);go_ret;exact⟨ae (JT p xs),hb⟩
end
def dU(_:World)(_:Nat)(e:List Value)(x:Np.Span):Prop:=e = [.int .i64 x.frm,.int .i64 x.til]
theorem iw:cY dU:=λ_ _ _ _ _ h _=>h
theorem qh:dw dU:=λ_ _ _ _ _ h _=>h
def Np.zz(l:List Np.Span)(t:Int):Bool:=l.any λs=>decide (s.frm<=t)&&decide (t<s.til)
theorem Th(b:Nat)(t f u:Int)(w:World)(h:w.cell? ⟨b,0,none⟩=some (.int .i64 t)) :
 Calls prog 94 #[.agg #[.int .i64 f,.int .i64 u],.pointer (some ⟨b,0,none⟩)] w λe w'=>e = .returned (.bool (decide (f<=t)&&decide (t<u)))/\Below w.heap.size w w':=by
 have lb:=World.block_lt_of_cell? w _ h;simp only at lb;go_enter func94,ntmps94;go_wp2_with fail
 all_goals
  go_ret;go_light;refine⟨ae ?_,(vQ _ w).alloc (bQ _) _⟩;simp_all <;> (intros;omega)
theorem Tl(v:Value)(l:List Np.Span)(t:Int)(w:World)(h:SlR dU 2 w w.heap.size v l) :
 Calls prog 46 #[v,.int .i64 t] w λe w'=>e = .returned (.bool (Np.zz l t))/\Below w.heap.size w w':=by
 have H:=jq h;obtain⟨A,c,rfl,bw,bT,jy⟩:=h;clear jy;have cn:∀ o,Below w.heap.size w (w.alloc o):=λo=>(vQ _ w).alloc (bQ _) _;have aw:=jq cn;clear cn;go_enter func46,ntmps46;go_wp2_with fail;refine (RM (R:=dU) iw 94 (enters_of func94 (by kernel_rfl) rfl) _ (λs=>decide (s.frm<=t)&&decide (t<s.til)) _ l _ _ (bQ _) ?_ ?_).mono ?_
 ·exact (H.out.keep iw (aw.out _)).more qh (by simp)
 ·intro W x e0 e1 hx hW xP Bm;simp only[dU,List.cons.injEq,and_true] at Bm;obtain⟨rfl,rfl⟩:=Bm;refine Th w.heap.size t x.frm x.til W ?_;rw[hW.cell (by simp)];go_simp
 ·rintro e w1 ⟨rfl,hb⟩;have HB:=jq hb;clear hb;go_wp2_with fail;go_ret;exact⟨rfl,(aw.out _).trans (HB.out.mono (by simp))⟩
end
section
open Go.RowKit Go.Sort Go.Shelf
section
variable {α:Type} [Inhabited α]
theorem EA(enc:α->List Value)(k:Nat)(hk:∀ x,(enc x).length=k)(h0:0<k)(xs:List α):(flatK enc k xs.toArray).toList=(xs.map enc).flatten:=by
 have hlen:(xs.map enc).flatten.length=xs.length * k:=by
  clear h0
  induction xs with
  | nil=>simp
  | cons y ys ih=>rw[List.map_cons,List.flatten_cons,List.length_append,ih,hk,List.length_cons,Nat.succ_mul];omega
 apply List.ext_getElem?;intro t;by_cases ht:t<xs.length * k
 ·have h1:t / k<xs.length:=(Nat.div_lt_iff_lt_mul h0).2 ht;have h2:t % k<k:=Nat.mod_lt _ h0;have hr:(xs.map enc)[t / k]?=some (enc xs[t / k]):=by simp[h1]
  have hu:(enc xs[t / k])[t % k]?=some ((enc xs[t / k])[t % k]'(by rw[hk];exact h2)):=aQ _;have h3:=AX (xs.map enc) (t / k) (t % k) _ _ (by intro r hr;obtain⟨x,_,rfl⟩:=List.mem_map.1 hr;exact hk x) hr hu;rw[show t / k * k+t % k=t by rw[Nat.mul_comm];exact Nat.div_add_mod t k] at h3;rw[h3];have hs:t<(flatK enc k xs.toArray).size:=by simpa using ht
  rw[Array.getElem?_toList,pQ hs];congr 1;have h4:=get_flatK enc k xs.toArray t (by simpa using ht);rw[getElem!_pos (flatK enc k xs.toArray) t hs] at h4;rw[h4];rw[getElem!_pos xs.toArray (t / k) (by simpa using h1)];rw[getElem!_pos _ (t % k) (by rw[hk];exact h2)];simp
 ·rw[List.getElem?_eq_none (by simp;omega),List.getElem?_eq_none (by rw[hlen];omega)]
theorem UD(enc:α->List Value)(k:Nat)(hk:∀ x,(enc x).length=k)(h0:0<k){w:World}{g:Nat}{cur:Array Value}{e:TypeId}{xs:List α}(hb:w.heap[g]?=some (.cells cur e (0,0)))(ht:cur.toList.take (xs.length * k)=(xs.map enc).flatten):HoldsK enc k w g 0 xs.toArray:=by
 intro j hj;have hj':j<xs.length * k:=by simpa using hj
 refine⟨?_,by simp[World.frozen?,hb]⟩;have h1:(cur.toList.take (xs.length * k))[j]?=(flatK enc k xs.toArray).toList[j]?:=by rw[ht,EA enc k hk h0]
 rw[List.getElem?_take_of_lt hj'] at h1;simp only[World.cell?,hb,Nat.zero_add,Option.isSome_none,Bool.false_eq_true,if_false];rw[<-Array.getElem?_toList,h1];have hs:j<(flatK enc k xs.toArray).size:=by simpa using hj'
 rw[Array.getElem?_toList,pQ hs,getElem!_pos _ j hs];rfl
theorem TT(enc:α->List Value)(k:Nat){w:World}{g n:Nat}{os:Array Obj}{cur:Array Value}{e:TypeId}{fr:Nat×Nat}(d:Array α)(hb:w.heap[g]?=some (.cells cur e fr)) :
 (sortWorldK enc k w g 0 n d os).heap[g]?=some (.cells (putCells id 0 (flatK enc k d) cur) e fr):=by
 have hl:g<w.heap.size:=(eQ.1 hb).1;unfold sortWorldK putRowK;rw[heap_grow_old _ _ (by simpa [putRow,mapBlock,Sort.ahead] using hl)];simp[putRow,mapBlock,Sort.ahead,Array.getElem?_modify,hb,onCells]
theorem SP(enc:α->List Value)(k:Nat){w:World}{g n:Nat}{os:Array Obj}(d:Array α):w.grownBy (sortWorldK enc k w g 0 n d os) (some g):=by
 unfold sortWorldK putRowK;refine⟨rfl,rfl,rfl,by simp,λq hq hne=>?_⟩;rw[heap_grow_old _ _ (by simpa using hq)]
 have:g≠q:=λe=>hne (by rw[e])
 simp[putRow,mapBlock,Sort.ahead,Array.getElem?_modify,this]
theorem Xa(enc:α->List Value)(k:Nat)(hk:∀ x,(enc x).length=k)(h0:0<k){w:World}{base g cap n:Nat}{e:TypeId}{os:Array Obj}{cur:Array Value}{xs ys:List α}(hl:ys.length=xs.length)(dD:base<=g)(hb:w.heap[g]?=some (.cells cur e (0,0)))
 (h1:xs.length<=cap) (h2:cap<=maxLen) (h3:cur.size=cap * k) :
 (sortWorldK enc k w g 0 n ys.toArray os).ownsRow base e k (.slice (some ⟨g,0,none⟩) xs.length cap) xs.length (ys.map enc).flatten:=by
 have uU:(ys.map enc).flatten.length=ys.length * k:=by
  rw[<-EA enc k hk h0 ys];simp
 have fM:ys.length * k<=cur.size:=by rw[h3];exact Nat.mul_le_mul_right k (by omega)
 refine⟨by rw[uU,hl],.inr ⟨g,cap,_,rfl,dD,TT enc k _ hb,h1,h2,by simp[putCells,h3],?_⟩⟩;rw[<-hl];apply List.ext_getElem?;intro j;by_cases hj:j<ys.length * k
 ·rw[List.getElem?_take_of_lt hj,Array.getElem?_toList,<-EA enc k hk h0 ys];have hs:j<(flatK enc k ys.toArray).size:=by simpa using hj
  rw[Array.getElem?_toList,pQ hs];have uY:j<cur.size:=by omega
  simp[putCells,hj,uY]
 ·rw[List.getElem?_take_eq_none (by omega),List.getElem?_eq_none (by rw[uU];omega)]
end
def eZ(s:Np.Span):List Value:=[.int .i64 s.frm,.int .i64 s.til]
def aK(base:Nat)(w:World)(v:Value)(ps:List Np.Span):Prop:=w.ownsRow base 110 2 v ps.length (ps.map eZ).flatten
theorem aK.form{base:Nat}{w:World}{v:Value}{ps:List Np.Span}(h:aK base w v ps):∃ A c,v = .slice A ps.length c:=vC h
theorem aK.alloc{base:Nat}{w:World}{v:Value}{ps:List Np.Span}(h:aK base w v ps)(o:Obj):aK base (w.alloc o) v ps:=World.ownsRow.alloc h o
theorem aK.keep{base:Nat}{w w':World}{v:Value}{ps:List Np.Span}(h:aK base w v ps)(hb:Below w.heap.size w w'):aK base w' v ps:=ga h (λg hg=>hb.block g (h.lt g hg).2)
theorem aK.nil(base:Nat)(w:World):aK base w (.slice none 0 0) []:=⟨by simp,.inl ⟨rfl,rfl⟩⟩
theorem aK.slr{base:Nat}{w:World}{v:Value}{ps:List Np.Span}(h:aK base w v ps)(hl:ps.length<=140737488355328):SlR dU 2 w w.heap.size v ps:=by
 refine GC (sz:=2) (e:=110) (base:=base) eZ (λ_ _=>rfl) ?_ hl (λx hx=>rfl)
 have:w.ownsRow base 110 2 v ps.length (ps.map eZ).flatten:=h
 rwa [<-List.flatMap_def] at this
theorem Tryz.infoSpan:(prog.info? 110).map (λi=>(i.zero,i.size,i.bytes))=some (some (.agg #[.int .i64 0,.int .i64 0]),2,16):=by kernel_rfl
section
variable {ops:Array Oper} {rest:List Oper} {o:Oper} {a:Act} {Q:Exit->Act->World->Prop}
theorem CK(w:World)(gT:o.guard=none)(s x:Operand)(ho:o.op = .call { callee:=.builtin .append,args:=#[s,x],argTypes:=#[55,55] })
 (base:Nat) (v:Value) (ps:List Np.Span) (hs:a.eval s=v) (hown:aK base w v ps) (blk:Nat) (f u:Int) (hx:a.eval x = .slice (some ⟨blk,0,none⟩) 1 1) (hc:w.cell? ⟨blk,0,none⟩=some (.int .i64 f)) (bw:w.cell? ⟨blk,1,none⟩=some (.int .i64 u)) (hlen:ps.length<=100000) (dD:base<=w.heap.size)
 (h:∀ v' w',aK base w' v' (ps ++ [⟨f,u⟩])->Below base w w'->wpList prog ops Q rest (a.put o.dst v') w'):wpList prog ops Q (o::rest) a w:=by
 obtain⟨i0,hi,eM,bj,aJ⟩:=info_parts Tryz.infoSpan;refine wpList_append_own_at w gT s x 55 ho base 110 i0 (.agg #[.int .i64 0,.int .i64 0]) 2 16 underlying55 hi eM bj aJ rfl (by decide) v ps.length (ps.map eZ).flatten hs hown ⟨blk,0,none⟩ 1 1 [.int .i64 f,.int .i64 u] hx rfl ?_ (by simp[Value.oneCell']) (by unfold maxLen;omega) (by omega) dD ?_
 ·intro j y hj
  match j,hj with
  | 0,hj=>simp at hj;subst hj;simpa [Addr.add] using hc
  | 1,hj=>simp at hj;subst hj;simpa [Addr.add] using bw
  | j+2,hj=>simp at hj
 ·intro v' w' ho' hg _ _;refine h v' w' ?_ ((vQ _ _).grown hg dD (λk hk=>(hown.lt k hk).1));have e:(ps ++ [(⟨f,u⟩:Np.Span)]).length=ps.length+1:=by simp
  unfold aK;rw[e,List.map_append,List.flatten_append];exact ho'
end
theorem SE(f u:Int)(w:World) :
 Calls prog 177 #[.agg #[.int .i64 f,.int .i64 u]] w λe w'=>e = .returned (.bool (decide (f<u)))/\Below w.heap.size w w':=by
 have HB:Hid (∀ o,Below w.heap.size w (w.alloc o)):=jq (λo=>(vQ _ w).alloc (bQ _) _);go_enter func177,ntmps177;go_wp2_with fail;go_ret;exact⟨rfl,HB.out _⟩
theorem YU(v:Value)(l:List Np.Span)(bI:l.length<=20000)(hf:∀ s∈l,s.frm<s.til)(w:World)(h:SlR dU 2 w w.heap.size v l) :
 Calls prog 176 #[v,.func (.func 177) #[] #[]] w λe w'=>∃ v',e = .returned v'/\aK w.heap.size w' v' l/\Below w.heap.size w w':=by
 have HD:=jq h;have HF:=jq hf;obtain⟨A,c,rfl,bw,bT⟩:=al h;clear h hf;have HE:=jq (enters_of func177 (by kernel_rfl) rfl);go_enter func176,ntmps176;go_wp2_with fail;go_loopw [5,10] (λvo i wr=>∃ (k:Nat),k<=l.length/\i = .int .i64 k/\Hid (Below w.heap.size w wr)/\Hid (aK w.heap.size wr vo (l.take k))) (λ_ i _=>l.length - (intOf i).toNat)
 case atStart=>exact⟨0,jQ _,rfl,jq (vQ _ _),jq (aK.nil _ _)⟩
 case round=>
  obtain⟨k,hk,rfl,HB,HO⟩:=hrel;have an:=HB.out.size;by_cases aa:k<l.length
  ·obtain⟨x,ab⟩:∃ x,l[k]?=some x:=⟨_,aQ aa⟩;obtain⟨A',c',hA',_,_,bK⟩:=HD.out.keep iw HB.out
   cases hA'
   obtain⟨b,o,e,rfl,bG,hlen,hce,hR⟩:=bK k _ ab;obtain rfl:=hR;have h0:wr.cell? ⟨b,o+k * 2,none⟩=some (.int .i64 x.frm):=hce 0 _ rfl;have h1:wr.cell? ⟨b,o+k * 2+1,none⟩=some (.int .i64 x.til):=hce 1 _ rfl;have hd:decide (x.frm<x.til)=true:=uQ (HF.out x (gQ ab));have HT:Hid (l.take (k+1)=l.take k ++ [x]):=jq (by
    obtain⟨hl,he⟩:=cQ.1 ab;rw[fQ hl,he])
   have HL:Hid ((l.take k).length<=100000):=jq (by rw[List.length_take];omega);obtain⟨f,u⟩:=x;have cZ:b<wr.heap.size:=by omega
   clear bK hce ab;dsimp only at h0 h1 hd;have aZ:Hid (∀ o,Below w.heap.size w (wr.alloc o)):=jq (λo=>HB.out.alloc HB.out.size _);go_wp2_with (fail);refine (SE f u _).mono ?_;rintro e w2 ⟨rfl,ac⟩;rw[hd];have aj:Hid (Below w.heap.size w w2):=jq ((aZ.out _).trans (ac.mono (by simp;omega)));have dG:Hid (aK w.heap.size w2 u5 (l.take k)):=jq ((HO.out.alloc _).keep ac);have c0:w2.cell? ⟨wr.heap.size,0,none⟩=some (.int .i64 f):=by rw[ac.cell (by simp)];simp[go_sem]
   have c1:w2.cell? ⟨wr.heap.size,1,none⟩=some (.int .i64 u):=by rw[ac.cell (by simp)];simp[go_sem]
   have aJ:wr.heap.size<w2.heap.size:=by have:=ac.size;simp at this;omega
   clear ac;go_wp2_with (at_builtin;refine CK _ rfl _ _ rfl w.heap.size _ (l.take k) rfl (dG.out.alloc _) w2.heap.size f u (by simp[go_sem]) (by simp[go_sem]) (by simp[go_sem]) HL.out (by simp;omega) ?_;intro v5 w5 fZ aI;have H5:=jq (And.intro fZ aI);clear fZ aI);go_roundw
   case rel=>exact⟨k+1,by omega,by go_num,jq ((aj.out.alloc (by omega) _).trans H5.out.2),jq (by rw[HT.out];exact H5.out.1)⟩
   case measure=>simp[intOf] <;> omega
  ·have HE':Hid (l.take k=l):=jq (kQ (by omega));go_wp2_with fail;go_ret;exact⟨_,rfl,by have:=HO.out;rwa [HE'.out] at this,HB.out⟩
instance:Inhabited Np.Span:=⟨⟨0,0⟩⟩
theorem WO(f u f' u':Int)(w:World) :
 Calls prog 178 #[.agg #[.int .i64 f,.int .i64 u],.agg #[.int .i64 f',.int .i64 u']] w λe w'=>e = .returned (.int .i64 (Np.bX f f'))/\∃ q os,w'=grow (w.drewN q) os:=by
 go_enter func178,ntmps178;go_wp2_with (go_at_call 123;refine (xH _ _ _).mono ?_;rintro e w' ⟨rfl,rfl⟩);go_ret;exact⟨rfl,0,_,by rw[alloc_eq_grow,alloc_eq_grow,grow_grow];rfl⟩
theorem B8(x y:Np.Span):ltOf (λx y:Np.Span=>Np.bX x.frm y.frm) x y=decide (x.frm<y.frm):=by
 unfold ltOf Np.bX;by_cases h1:x.frm<y.frm
 ·simp[h1]
 ·by_cases h2:y.frm<x.frm <;> simp[h1,h2]
theorem Zc:SWO (ltOf λx y:Np.Span=>Np.bX x.frm y.frm) where
 irrefl x:=by rw[B8];simp
 trans x y z h1 h2:=by rw[B8] at *;simp at *;omega
 ntrans x y z h1 h2:=by rw[B8] at *;simp at *;omega
theorem Y2{d d':Array Np.Span}(hp:PermIn 0 d.size d d')(hs:SortedIn (ltOf λx y:Np.Span=>Np.bX x.frm y.frm) 0 d.size d'):d'.toList.Perm d.toList/\d'.toList.Pairwise λa b=>a.frm<=b.frm:=by
 obtain⟨h1,_,h3⟩:=hp;refine⟨?_,?_⟩
 ·have e1:d'.extract 0 d.size=d':=by rw[<-h1];simp
  have e2:d.extract 0 d.size=d:=by simp
  rwa [e1,e2] at h3
 ·rw[List.pairwise_iff_getElem];intro i j hi hj dp
  have:=hs i j (jQ _) dp (by rw[<-h1];simpa using hj)
  rw[B8,getElem!_pos d' i (by simpa using hi),getElem!_pos d' j (by simpa using hj)] at this;simpa using this
theorem NN(fid:FuncId)(TX:∀ (f u f' u':Int) (w:World),Calls prog fid #[.agg #[.int .i64 f,.int .i64 u],.agg #[.int .i64 f',.int .i64 u']] w λe w'=>e = .returned (.int .i64 (Np.bX f f'))/\∃ q os,w'=grow (w.drewN q) os)(eg:∀ args w,(callFunc fid args).run prog w = .ok (.enter fid args) w)(base:Nat)(v:Value)(xs:List Np.Span)(w:World)(hown:aK base w v xs)(hl:xs.length<=100000) :
 Calls prog 121 #[v,.func (.func fid) #[] #[]] w λe w'=>e = .returned (.tuple #[])/\∃ ys:List Np.Span,ys.Perm xs/\ys.Pairwise (λa b=>a.frm<=b.frm)/\aK base w' v ys/\w.grownBy w' v.ownBlock:=by
 have nI:w.ownsRow base 110 2 v xs.length (xs.map eZ).flatten:=hown;rcases nI.2 with ⟨rfl,h0⟩ | ⟨g,cap,cur,rfl,dD,hb,h1,h2,h3,h4⟩
 ·have:xs = []:=rQ h0
  subst this;refine (AnyF.slices_SortFunc_none Tryz.sortSpan none 0 _ w).mono ?_;intro e w' hh;obtain⟨rfl,rfl⟩:=hh;exact⟨rfl,[],List.Perm.refl _,List.Pairwise.nil,hown,⟨rfl,rfl,rfl,bQ _,λ_ _ _=>rfl⟩⟩
 have aE:∀ w,(isAgg 110).run prog w = .ok true w:=λw=>by kernel_rfl
 have zE:∀ w,(Go.sizeOf 110).run prog w = .ok 2 w:=λw=>by kernel_rfl
 have hH:=UD eZ 2 (λ_=>rfl) (by omega) hb h4;have yk:CmpLays prog fid #[] eZ 2 (λx y:Np.Span=>Np.bX x.frm y.frm) g 0 xs.toArray.size w:=λm os dk _ x y=>TX x.frm x.til y.frm y.til _;have Bz:=AnyQ.slices_SortFunc Tryz.sortSpan 2 aE zE eZ (λ_=>rfl) (λx u hu=>by simp only[eZ,List.mem_cons,Qh,or_false] at hu;rcases hu with rfl | rfl <;> rfl) (λx y:Np.Span=>Np.bX x.frm y.frm) Zc fid #[] g 0 cap xs.toArray w eg yk hH (eQ.1 hb).1 (by simp;omega);refine Bz.mono λe w' ⟨he,d',n,os,hp,hs,hw⟩=>⟨he,d'.toList,?_⟩;obtain⟨p1,p2⟩:=Y2 hp hs;have hlen:d'.toList.length=xs.length:=by simpa using p1.length_eq
 refine⟨by simpa using p1,p2,?_,?_⟩
 ·subst hw;unfold aK;rw[hlen]
  have:=Xa eZ 2 (λ_=>rfl) (by omega) (n:=n) (os:=os) hlen dD hb h1 h2 h3
  simpa using this
 ·subst hw;exact SP eZ 2 _
theorem Y0(base:Nat)(v:Value)(xs:List Np.Span)(w:World)(hown:aK base w v xs)(hl:xs.length<=100000) :
 Calls prog 121 #[v,.func (.func 178) #[] #[]] w λe w'=>e = .returned (.tuple #[])/\∃ ys:List Np.Span,ys.Perm xs/\ys.Pairwise (λa b=>a.frm<=b.frm)/\aK base w' v ys/\w.grownBy w' v.ownBlock:=
 NN _ WO (enters_of func178 (by kernel_rfl) rfl) base v xs w hown hl
theorem N5:∀ (l o:List Np.Span),(l.foldl Np.ft o).length<=o.length+l.length:=by
 intro l
 induction l with
 | nil=>intro o;simp
 | cons s l ih=>
  intro o;have h1:(Np.ft o s).length<=o.length+1:=by
   rcases List.eq_nil_or_concat o with rfl | ⟨q,p,rfl⟩
   ·simp[Np.N4]
   ·rw[List.concat_eq_append,Np.GR];split <;> simp
  have:=ih (Np.ft o s)
  rw[List.foldl_cons,List.length_cons];omega
theorem Sw(q:List Np.Span)(p:Np.Span)(u:Int):(((q ++ [p]).map eZ).flatten).set (q.length * 2+1) (.int .i64 u)=((q ++ [(⟨p.frm,u⟩:Np.Span)]).map eZ).flatten:=by
 have hl:((q.map eZ).flatten).length=q.length * 2:=by rw[<-List.flatMap_def];induction q with | nil=>rfl | cons a q ih=>simp[List.flatMap_cons,ih,eZ];omega
 rw[List.map_append,List.flatten_append,List.map_append,List.flatten_append,List.set_append_right _ _ (by rw[hl];omega),hl];congr 1;rw[show q.length * 2+1 - q.length * 2=1 by omega];rfl
theorem Sv(q:List Np.Span)(p:Np.Span)(j:Nat):(((q ++ [p]).map eZ).flatten)[q.length * 2+j]?=(eZ p)[j]?:=by
 have hl:((q.map eZ).flatten).length=q.length * 2:=by rw[<-List.flatMap_def];induction q with | nil=>rfl | cons a q ih=>simp[List.flatMap_cons,ih,eZ];omega
 rw[List.map_append,List.flatten_append,oQ (by rw[hl];omega),hl];simp
theorem Zo(v:Value)(l:List Np.Span)(bI:l.length<=20000)(w:World)(h:SlR dU 2 w w.heap.size v l) :
 Calls prog 179 #[v] w (λe w'=>∃ v',e = .returned v'/\aK w.heap.size w' v' (l.foldl Np.ft [])/\Below w.heap.size w w'):=by
 have HD:=jq h;obtain⟨A,c,rfl,bw,bT⟩:=al h;clear h;have HN:Hid (∀ k,((l.take k).foldl Np.ft []).length<=k):=jq (λk=>yQ (N5 _ _) (by simp;omega));go_enter func179,ntmps179;go_wp2_with fail;go_loopw [3,9] (λvo i wr=>∃ (k:Nat),k<=l.length/\i = .int .i64 k/\Hid (Below w.heap.size w wr)/\Hid (aK w.heap.size wr vo ((l.take k).foldl Np.ft []))) (λ_ i _=>l.length - (intOf i).toNat)
 case atStart=>exact⟨0,jQ _,rfl,jq (vQ _ _),jq (aK.nil _ _)⟩
 case round=>
  obtain⟨k,hk,rfl,HB,HO⟩:=hrel;have an:=HB.out.size;by_cases aa:k<l.length
  ·obtain⟨x,ab⟩:∃ x,l[k]?=some x:=⟨_,aQ aa⟩;obtain⟨A',c',hA',_,_,bK⟩:=HD.out.keep iw HB.out
   cases hA'
   obtain⟨b,o,e,rfl,bG,hlen,hce,hR⟩:=bK k _ ab;obtain rfl:=hR;have h0:wr.cell? ⟨b,o+k * 2,none⟩=some (.int .i64 x.frm):=hce 0 _ rfl;have h1:wr.cell? ⟨b,o+k * 2+1,none⟩=some (.int .i64 x.til):=hce 1 _ rfl;have HT:Hid ((l.take (k+1)).foldl Np.ft []=Np.ft ((l.take k).foldl Np.ft []) x):=jq (by
    obtain⟨hl,he⟩:=cQ.1 ab;rw[fQ hl,he,List.foldl_append];rfl)
   have cZ:b<wr.heap.size:=by omega
   have aZ:Hid (∀ o,Below w.heap.size w (wr.alloc o)):=jq (λo=>HB.out.alloc HB.out.size _);have vl:=HN.out k;obtain⟨fr,ti⟩:=x;clear bK hce ab;dsimp only at h0 h1;obtain⟨ol,Le⟩:∃ ol,(l.take k).foldl Np.ft []=ol:=⟨_,rfl⟩;rw[Le] at HO HT vl;clear Le;rcases List.eq_nil_or_concat ol with rfl | ⟨q,p,rfl⟩
   ·obtain⟨A0,c0,rfl⟩:=aK.form HO.out;go_wp2_with fail;go_quiet (fail);obtain⟨w2,ai⟩:∃ w2,(wr.alloc (.cells #[.int .i64 fr,.int .i64 ti] 110)).drewN nq=w2:=⟨_,rfl⟩;have aJ:w2.heap.size=wr.heap.size+1:=by rw[<-ai];simp
    have c0:w2.cell? ⟨wr.heap.size,0,none⟩=some (.int .i64 fr):=by rw[<-ai];simp[go_sem]
    have c1:w2.cell? ⟨wr.heap.size,1,none⟩=some (.int .i64 ti):=by rw[<-ai];simp[go_sem]
    have gj:Below wr.heap.size wr w2:=by rw[<-ai];exact below_drewN ((vQ _ _).alloc (bQ _) _) _
    have aj:Hid (Below w.heap.size w w2):=jq (HB.out.trans (gj.mono an));have dG:Hid (aK w.heap.size w2 _ []):=jq (HO.out.keep gj);rw[ai];clear ai gj;go_wp2_with (at_builtin;refine CK _ rfl _ _ rfl w.heap.size _ [] rfl (dG.out.alloc _) w2.heap.size fr ti (by simp[go_sem]) (by simp[go_sem]) (by simp[go_sem]) (by simp) (by simp;omega) ?_;intro v5 w5 fZ aI;have H5:=jq (And.intro fZ aI);clear fZ aI);go_roundw
    case rel=>exact⟨k+1,by omega,by go_num,jq ((aj.out.alloc (by omega) _).trans H5.out.2),jq (by rw[HT.out];exact H5.out.1)⟩
    case measure=>simp[intOf] <;> omega
   ·rw[List.concat_eq_append] at HO HT vl;have hown:wr.ownsRow w.heap.size 110 2 u3 (q ++ [p]).length ((q ++ [p]).map eZ).flatten:=HO.out;have Hv:=jq (Sv q p);have Pu:=jq (Sw q p);have PH:Hid ((q ++ [p]).length<=100000):=jq (by omega);have lL:(q ++ [p]).length=q.length+1:=by simp
    have hqk:q.length+1<=k:=by rw[lL] at vl;exact vl
    clear vl;rcases hown.2 with ⟨_,SR⟩ | ⟨g,cap,cur,rfl,dD,hb,bl,bP,_,_⟩
    ·rw[lL] at SR;omega
    have gu:=jq hown;have lg:g<wr.heap.size:=(eQ.1 hb).1;clear hb hown;obtain⟨M,hM⟩:∃ M,(q ++ [p]).length=M:=⟨_,rfl⟩;obtain⟨m,hm⟩:∃ m,q.length=m:=⟨_,rfl⟩;have g0:wr.cell? ⟨g,m * 2,none⟩=some (.int .i64 p.frm):=by
     rw[<-hm,gu.out.cellAt _ (by rw[lL];omega)]
     have:=Hv.out 0
     rwa [Nat.add_zero] at this
    have g1:wr.cell? ⟨g,m * 2+1,none⟩=some (.int .i64 p.til):=by
     rw[<-hm,gu.out.cellAt _ (by rw[lL];omega)];exact Hv.out 1
    have gf:wr.frozen? ⟨g,m * 2+1,none⟩=false:=gu.out.frozenAt _;rw[lL,hm] at hM;have hq:IntKind.i64.wrap ((M:Int) - 1)=(m:Int):=by rw[show (M:Int) - 1=m by omega];simp[IntKind.wrap,IntKind.bits,IntKind.signed];omega
    have hM0:decide (0<(M:Int))=true:=uQ (by omega);have acX:decide (0<M)=true:=uQ (by omega);have hmM:m<M:=by omega
    have alQ:(m:Int)<(M:Int):=by omega
    have jC:(0:Int)<=(m:Int):=by omega
    have HM:Hid ((q ++ [p]).length=M):=jq (by rw[lL,hm,hM]);rw[HM.out] at bl;have HM2:=jq hM;have HQ:=jq hm;have od:=jq (Np.GR q p ⟨fr,ti⟩);clear hM hm lL;rw[HM.out];by_cases fM:fr<=p.til
    ·have hd:decide (fr<=p.til)=true:=uQ fM;have gw:Hid ((l.take (k+1)).foldl Np.ft []=q ++ [⟨p.frm,max p.til ti⟩]):=jq (by rw[HT.out,od.out,Qb fM]);clear fM;go_wp2_with fail;go_quiet (fail);obtain⟨w2,ai⟩:∃ w2,(wr.alloc (.cells #[.int .i64 fr,.int .i64 ti] 110)).drewN nq=w2:=⟨_,rfl⟩;have aJ:w2.heap.size=wr.heap.size+1:=by rw[<-ai];simp
     have c0:w2.cell? ⟨wr.heap.size,0,none⟩=some (.int .i64 fr):=by rw[<-ai];simp[go_sem]
     have c1:w2.cell? ⟨wr.heap.size,1,none⟩=some (.int .i64 ti):=by rw[<-ai];simp[go_sem]
     have gj:Below wr.heap.size wr w2:=by rw[<-ai];exact below_drewN ((vQ _ _).alloc (bQ _) _) _
     have aj:Hid (Below w.heap.size w w2):=jq (HB.out.trans (gj.mono an));have dG:Hid (aK w.heap.size w2 (.slice (some ⟨g,0,none⟩) M cap) (q ++ [p])):=jq (HM.out ▸ HO.out.keep gj);rw[ai];clear ai;have d1:w2.cell? ⟨g,m * 2+1,none⟩=some (.int .i64 p.til):=(gj.cell lg).trans g1;have df:w2.frozen? ⟨g,m * 2+1,none⟩=false:=(gj.frozen lg).trans gf;clear gj g0 g1 gf;go_wp2_with fail;go_region;have cP:Hid (aK w.heap.size (w2.setCell ⟨g,m * 2+1,none⟩ (.int .i64 (max p.til ti))).drew (.slice (some ⟨g,0,none⟩) M cap) (q ++ [⟨p.frm,max p.til ti⟩])/\Below w.heap.size w (w2.setCell ⟨g,m * 2+1,none⟩ (.int .i64 (max p.til ti))).drew):=jq (by
      have h1:w2.ownsRow w.heap.size 110 2 (.slice (some ⟨g,0,none⟩) (q ++ [p]).length cap) (q ++ [p]).length ((q ++ [p]).map eZ).flatten:=by
       have:=dG.out
       rw[<-HM.out] at this;exact this
      obtain⟨h2,h3⟩:=World.ownsRow.stored h1 (m * 2+1) (.int .i64 (max p.til ti));refine⟨aK.keep (w:=w2.setCell ⟨g,m * 2+1,none⟩ (.int .i64 (max p.til ti))) ?_ (vQ _ _).drew,(aj.out.grown h3 aj.out.size (λk hk=>by simp at hk;omega)).drew⟩;rw[<-HQ.out] at h2 |-;rw[Pu.out] at h2;have e1:(q ++ [(⟨p.frm,max p.til ti⟩:Np.Span)]).length=(q ++ [p]).length:=by simp
      unfold aK;rw[e1,<-HM.out];exact h2)
     go_wp2_with fail;go_roundw
     case rel=>exact⟨k+1,by omega,by go_num,jq cP.out.2,jq (by rw[gw.out];exact cP.out.1)⟩
     case measure=>simp[intOf] <;> omega
    ·have hd:decide (fr<=p.til)=false:=tQ fM;have gw:Hid ((l.take (k+1)).foldl Np.ft []=q ++ [p] ++ [⟨fr,ti⟩]):=jq (by rw[HT.out,od.out,Qc fM]);clear fM;go_wp2_with fail;go_quiet (fail);obtain⟨w2,ai⟩:∃ w2,(wr.alloc (.cells #[.int .i64 fr,.int .i64 ti] 110)).drewN nq=w2:=⟨_,rfl⟩;have aJ:w2.heap.size=wr.heap.size+1:=by rw[<-ai];simp
     have c0:w2.cell? ⟨wr.heap.size,0,none⟩=some (.int .i64 fr):=by rw[<-ai];simp[go_sem]
     have c1:w2.cell? ⟨wr.heap.size,1,none⟩=some (.int .i64 ti):=by rw[<-ai];simp[go_sem]
     have gj:Below wr.heap.size wr w2:=by rw[<-ai];exact below_drewN ((vQ _ _).alloc (bQ _) _) _
     have aj:Hid (Below w.heap.size w w2):=jq (HB.out.trans (gj.mono an));have dG:Hid (aK w.heap.size w2 (.slice (some ⟨g,0,none⟩) M cap) (q ++ [p])):=jq (HM.out ▸ HO.out.keep gj);rw[ai];clear ai;clear gj g0 g1 gf;go_wp2_with (at_builtin;refine CK _ rfl _ _ rfl w.heap.size _ (q ++ [p]) rfl (dG.out.alloc _) w2.heap.size fr ti (by simp[go_sem]) (by simp[go_sem]) (by simp[go_sem]) PH.out (by simp;omega) ?_;intro v5 w5 fZ aI;have H5:=jq (And.intro fZ aI);clear fZ aI);go_roundw
     case rel=>exact⟨k+1,by omega,by go_num,jq ((aj.out.alloc (by omega) _).trans H5.out.2),jq (by rw[gw.out];exact H5.out.1)⟩
     case measure=>simp[intOf] <;> omega
  ·have HE':Hid (l.take k=l):=jq (kQ (by omega));go_wp2_with fail;go_ret;exact⟨_,rfl,by have:=HO.out;rwa [HE'.out] at this,HB.out⟩
def Np.xy(s:Np.Span):Prop:=0<=s.frm/\s.frm<s.til/\s.til<=20000000
theorem aK.weak{base base':Nat}{w:World}{v:Value}{ps:List Np.Span}(h:aK base w v ps)(hb:base'<=base):aK base' w v ps:=by
 refine⟨h.1,?_⟩;rcases h.2 with h2 | ⟨g,cap,cur,h1,h2,h3⟩
 ·exact .inl h2
 ·exact .inr ⟨g,cap,cur,h1,yQ hb h2,h3⟩
theorem Gp(l:List Np.Span):(Np.f9 l).length<=l.length:=by
 have:=N5 (l.mergeSort λa b=>decide (a.frm<=b.frm)) []
 simpa [Np.f9] using this
theorem Mz(v:Value)(l:List Np.Span)(bI:l.length<=20000)(hin:∀ s∈l,Np.xy s)(w:World)(h:SlR dU 2 w w.heap.size v l) :
 Calls prog 109 #[v] w (λe w'=>∃ v',e = .returned (.tuple #[v',.int .i64 0])/\aK w.heap.size w' v' (Np.f9 l)/\Below w.heap.size w w'):=by
 have HD:=jq h;have iB:=jq hin;obtain⟨A,c,rfl,bw,bT⟩:=al h;clear h hin;have fM:decide (20000<(l.length:Int))=false:=tQ (by omega);go_enter func109,ntmps109;go_wp2_with fail;go_loopw [12] (λi wr=>∃ (k:Nat),k<=l.length/\i = .int .i64 k/\Hid (Below w.heap.size w wr)) (λi _=>l.length - (intOf i).toNat)
 case atStart=>exact⟨0,jQ _,rfl,jq (vQ _ _)⟩
 case round=>
  obtain⟨k,hk,rfl,HB⟩:=hrel;have an:=HB.out.size;by_cases aa:k<l.length
  ·obtain⟨x,ab⟩:∃ x,l[k]?=some x:=⟨_,aQ aa⟩;obtain⟨A',c',hA',_,_,bK⟩:=HD.out.keep iw HB.out
   cases hA'
   obtain⟨b,o,e,rfl,bG,hlen,hce,hR⟩:=bK k _ ab;obtain rfl:=hR;have h0:wr.cell? ⟨b,o+k * 2,none⟩=some (.int .i64 x.frm):=hce 0 _ rfl;have h1:wr.cell? ⟨b,o+k * 2+1,none⟩=some (.int .i64 x.til):=hce 1 _ rfl;obtain⟨i1,i2,i3⟩:=iB.out x (gQ ab);have gS:decide (x.frm<0)=false:=tQ (by omega);have jX:decide (x.til<x.frm)=false:=tQ (by omega);have Fl:decide (20000000<x.til)=false:=tQ (by omega);have aZ:Hid (∀ o,Below w.heap.size w (wr.alloc o)):=jq (λo=>HB.out.alloc HB.out.size _);have cZ:b<wr.heap.size:=by omega
   obtain⟨fr,ti⟩:=x;clear bK hce ab i1 i2 i3;dsimp only at h0 h1 gS jX Fl;go_wp2_with fail;go_roundw
   case rel=>exact⟨k+1,by omega,by go_num,jq (aZ.out _)⟩
   case measure=>simp[intOf] <;> omega
  ·have jK:=jq (HD.out.keep iw HB.out);go_wp2_with fail;refine (YU _ l bI (λs hs=>(iB.out s hs).2.1) _ ((jK.out.more qh an))).mono ?_;rintro e w2 ⟨v2,rfl,kD,ac⟩;have dG:=jq kD;have aj:=jq (HB.out.trans (ac.mono an));have aJ:wr.heap.size<=w2.heap.size:=ac.size;clear kD ac;obtain⟨A2,c2,rfl⟩:=dG.out.form;go_wp2_with fail;refine (Y0 wr.heap.size _ l _ dG.out (by omega)).mono ?_;rintro e w3 ⟨rfl,ys,hp,hs,nH,uX⟩;have lT:ys.length=l.length:=hp.length_eq;have HY:Hid (ys.foldl Np.ft []=Np.f9 l):=jq (Np.WQ (λs hs=>(iB.out s hs).2.1) hp hs);have gh:=jq nH;have ak:Below wr.heap.size w2 w3:=(vQ _ _).grown uX aJ (λk hk=>(World.ownsRow.lt dG.out k hk).1);have ar:=jq (aj.out.trans (ak.mono an));clear hp hs nH uX;go_wp2_with fail;refine (Zo _ ys (by omega) _ (gh.out.slr (by omega))).mono ?_;rintro e w4 ⟨v4,rfl,pM,av⟩;have HE:=jq (And.intro pM (ar.out.trans (av.mono ar.out.size)));clear pM av;go_wp2_with fail;go_ret2;exact⟨_,rfl,by have:=HE.out.1.weak ar.out.size;rw[HY.out] at this;exact this,HE.out.2⟩
structure SpBox(W:World)(b:Nat)(f u:Int):Prop where
 c0:W.cell? ⟨b,0,none⟩=some (.int .i64 f)
 c1:W.cell? ⟨b,1,none⟩=some (.int .i64 u)
 f0:W.frozen? ⟨b,0,none⟩=false
 f1:W.frozen? ⟨b,1,none⟩=false
 lt:b<W.heap.size
theorem SpBox.keep{W W':World}{b:Nat}{f u:Int}(h:SpBox W b f u){B:Nat}(hb:Below B W W')(hB:b<B):SpBox W' b f u:=
 ⟨(hb.cell hB).trans h.c0,(hb.cell hB).trans h.c1,(hb.frozen hB).trans h.f0,(hb.frozen hB).trans h.f1,lQ h.lt hb.size⟩
theorem aK.other{base:Nat}{W:World}{v:Value}{ps:List Np.Span}(h:aK base W v ps){p:Addr}(hp:p.block<base)(u:Value):aK base (W.setCell p u) v ps:=ownsRow_setCell_below h hp u
structure SpAt(W:World)(b j:Nat)(f u:Int):Prop where
 c0:W.cell? ⟨b,j,none⟩=some (.int .i64 f)
 c1:W.cell? ⟨b,j+1,none⟩=some (.int .i64 u)
theorem SpAt.keep{W W':World}{b j:Nat}{f u:Int}(h:SpAt W b j f u){B:Nat}(hb:Below B W W')(hB:b<B):SpAt W' b j f u:=⟨(hb.cell hB).trans h.c0,(hb.cell hB).trans h.c1⟩
theorem zy{W:World}{B b o n c k:Nat}{l:List Np.Span}{x:Np.Span}(h:SlR dU 2 W B (.slice (some ⟨b,o,none⟩) n c) l)(hx:l[k]?=some x):b<B/\SpAt W b (o+k * 2) x.frm x.til:=by
 obtain⟨A',c',hA',_,_,bK⟩:=h
 cases hA'
 obtain⟨b',o',e,hA,bG,hlen,hce,hR⟩:=bK k _ hx
 cases hA
 obtain rfl:=hR;exact⟨bG,hce 0 _ rfl,hce 1 _ rfl⟩
theorem CA{α:Type}{R:World->Nat->List Value->α->Prop}{sz:Nat}{W:World}{B:Nat}{A:Option Addr}{n c k:Nat}{l:List α}(h:SlR R sz W B (.slice A n c) l)(hk:k<l.length):∃ b o,A=some ⟨b,o,none⟩:=by
 obtain⟨A',c',hA',_,_,bK⟩:=h
 cases hA'
 obtain⟨b',o',e,hA,_⟩:=bK k _ (aQ hk);exact⟨b',o',hA⟩
structure WithK(X:Nat)(w W:World)(v:Value)(oo:List Np.Span)(fr ti:Int)(b j:Nat)(xf xu:Int):Prop where
 below:Below X w W
 own:aK (X+1) W v oo
 box:SpBox W X fr ti
 at_:SpAt W b j xf xu
theorem WithK.keep{X:Nat}{w W W':World}{v:Value}{oo:List Np.Span}{fr ti:Int}{b j:Nat}{xf xu:Int}(h:WithK X w W v oo fr ti b j xf xu)(hb:Below W.heap.size W W')(ky:b<X):WithK X w W' v oo fr ti b j xf xu:=
 ⟨h.below.trans (hb.mono (Nat.le_of_lt h.box.lt)),h.own.keep hb,h.box.keep hb h.box.lt,h.at_.keep hb (Nat.lt_trans ky h.box.lt)⟩
end
end Go.Proofs.YtfnopgdcaanaiaaGreatDoor
