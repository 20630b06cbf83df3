/- Parts of the proof. No condition. -/
import Derived.Shelf.SlSortCmp.NoneTotal
import Derived.Laws.OwnMore
import Derived.Test.YtfnopgdcaanaiaaGreatDoorK06
set_option linter.all false
set_option maxRecDepth 100000
set_option maxHeartbeats 8000000
namespace Go.Proofs.YtfnopgdcaanaiaaGreatDoor
open Go.Proofs.Tryz
section
open Go.RowKit Go.Shelf
section
variable {α:Type}
def lV(p:α->Bool):List α->Int
 | []=>-1
 | x::xs=>if p x then 0 else if lV p xs = -1 then -1 else lV p xs+1
theorem M4(p:α->Bool)(xs:List α)(h:∀ x∈xs,p x=false):lV p xs = -1:=by
 induction xs with
 | nil=>rfl
 | cons x r ih=>rw[lV,Qc (by simp[h x (by simp)]),Qb (ih (λy hy=>h y (by simp[hy])))]
theorem M2(p:α->Bool)(xs:List α)(k:Nat)(hk:k<xs.length)(h:∀ x∈xs.take k,p x=false)(hx:p xs[k]=true):lV p xs=k:=by
 induction xs generalizing k with
 | nil=>simp at hk
 | cons x r ih=>
  cases k with
  | zero=>simp at hx;simp[lV,hx]
  | succ k=>
   have h0:p x=false:=h x (by simp)
   have:=ih k (by simpa using hk) (λy hy=>h y (by simp[hy])) (by simpa using hx)
   rw[lV,Qc (by simp[h0]),Qc (by omega),this];simp
theorem M3(p:α->Bool)(xs:List α):decide (0<=lV p xs)=xs.any p:=by
 induction xs with
 | nil=>rfl
 | cons x r ih=>
  rw[lV];by_cases h:p x=true
  ·simp[h]
  ·rw[Qc h];have h':p x=false:=by simpa using h
   rw[List.any_cons,h',Bool.false_or,<-ih];split
   ·rename_i e;rw[e]
   ·rename_i e;have : -1<=lV p r:=by
     clear ih h h' e
     induction r with
     | nil=>simp[lV]
     | cons y r ih2=>rw[lV];split;omega;split <;> omega
    rw[Bool.eq_iff_iff];simp;omega
def L7(R:World->Nat->List Value->α->Prop)(B:Nat)(w:World)(f:FuncId)(cap:Array Value)(p:α->Bool)(xs:List α):Prop:=
 ∀ (W:World) (x:α) (e0 e1:Value),x∈xs->Below B w W->B<=W.heap.size->R W B [e0,e1] x->Calls prog f (#[.agg #[e0,e1]]++cap) W λe w'=>e = .returned (.bool (p x))/\Below W.heap.size W w'
theorem ZC{R:World->Nat->List Value->α->Prop}(hK:dl R)(f:FuncId)(eg:∀ args w,(callFunc f args).run prog w = .ok (.enter f args) w)(cap:Array Value)(p:α->Bool)(v:Value)(xs:List α)(w:World)(B:Nat)(hB:B<=w.heap.size)(h:SlR R 2 w B v xs)
 (hp:L7 R B w f cap p xs) :
 Calls prog 166 #[v,.func (.func f) #[] cap] w λe w'=>e = .returned (.int .i64 (lV p xs))/\Below w.heap.size w w':=by
 have H:=jq h;have HP:=jq hp;obtain⟨A,c,rfl,bD,bL,ka⟩:=h;clear ka hp;go_enter func166,ntmps166;go_wp2_with fail;go_loopw [8] (λi wr=>∃ k:Nat,k<=xs.length/\i = .int .i64 k/\Below w.heap.size w wr/\Hid (∀ x∈xs.take k,p x=false)) (λi _=>xs.length - (intOf i).toNat)
 case atStart=>exact⟨0,jQ _,rfl,vQ _ _,jq (by simp)⟩
 case round=>
  obtain⟨k,hk,rfl,hb,HA⟩:=hrel;by_cases aa:k<xs.length
  ·have bU:=hb.mono hB;obtain⟨A',c',hA',_,_,bV⟩:=H.out.keep hK bU
   cases hA'
   obtain⟨b,o,e,rfl,bC,hlen,hce,hR⟩:=bV k _ (aQ aa)
   match e,hlen with
   | [e0,e1],_=>
   have h0:wr.cell? ⟨b,o+k * 2,none⟩=some e0:=hce 0 _ rfl;have h1:wr.cell? ⟨b,o+k * 2+1,none⟩=some e1:=hce 1 _ rfl;have cL:=HP.out wr xs[k] e0 e1 (List.getElem_mem aa) bU (by have:=hb.size;omega) hR;have HC:=jq cL;have kp:=jq hb;clear bV hce hR cL bU hb;go_wp2_with (fail);refine HC.out.mono ?_;rintro e w2 ⟨rfl,ac⟩;have ak:=jq ac;clear ac;by_cases bw:p xs[k]=true
   ·have HX:=jq bw;go_wp2_with (fail);go_ret;exact⟨ja (M2 p xs k aa HA.out HX.out).symm,kp.out.trans (ak.out.mono kp.out.size)⟩
   ·have Es:p xs[k]=false:=by simpa using bw
    have HX:=jq Es;clear bw;go_wp2_with (fail);go_roundw
    case rel=>
     refine⟨k+1,by omega,by go_num,kp.out.trans (ak.out.mono kp.out.size),jq ?_⟩;rw[fQ aa];intro x hx;rcases List.mem_append.1 hx with h | h
     ·exact HA.out x h
     ·simp at h;subst h;exact HX.out
    case measure=>simp[intOf] <;> omega
  ·go_wp2_with fail;go_ret;exact⟨ja (M4 p xs (by have:=HA.out;rwa [kQ (by omega)] at this)).symm,hb⟩
theorem Vy{R:World->Nat->List Value->α->Prop}(hK:dl R)(f:FuncId)(eg:∀ args w,(callFunc f args).run prog w = .ok (.enter f args) w)(cap:Array Value)(p:α->Bool)(v:Value)(xs:List α)(w:World)(B:Nat)(hB:B<=w.heap.size)(h:SlR R 2 w B v xs)
 (hp:L7 R B w f cap p xs) :
 Calls prog 93 #[v,.func (.func f) #[] cap] w λe w'=>e = .returned (.bool (xs.any p))/\Below w.heap.size w w':=by
 have H:=jq h;have HP:=jq hp;have HE:=jq eg;clear h hp eg;go_enter func93,ntmps93;go_wp2_with (go_at_call 166;refine (ZC hK f HE.out cap p v xs w B hB H.out HP.out).mono ?_;rintro e w' ⟨rfl,hb⟩);go_ret;exact⟨ag (M3 p xs),hb⟩
end
def cV(_:World)(_:Nat)(e:List Value)(x:Np.Span):Prop:=e = [.int .i64 x.frm,.int .i64 x.til]
theorem dT:dl cV:=λ_ _ _ _ _ h _=>h
theorem jb:dJ cV:=λ_ _ _ _ _ h _=>h
def Np.Cy(l:List Np.Span)(t:Int):Bool:=l.any λs=>decide (s.frm<=t)&&decide (t<s.til)
theorem WU(b:Nat)(t f u:Int)(w:World)(h:w.cell? ⟨b,0,none⟩=some (.int .i64 t)) :
 Calls prog 94 #[.agg #[.int .i64 f,.int .i64 u],.pointer (some ⟨b,0,none⟩)] w λe w'=>e = .returned (.bool (decide (f<=t)&&decide (t<u)))/\Below w.heap.size w w':=by
 have lb:=World.block_lt_of_cell? w _ h;simp only at lb;go_enter func94,ntmps94;go_wp2_with fail
 all_goals
  go_ret;go_light;refine⟨ag ?_,(vQ _ w).alloc (bQ _) _⟩;simp_all <;> (intros;omega)
theorem WY(v:Value)(l:List Np.Span)(t:Int)(w:World)(h:SlR cV 2 w w.heap.size v l) :
 Calls prog 46 #[v,.int .i64 t] w λe w'=>e = .returned (.bool (Np.Cy l t))/\Below w.heap.size w w':=by
 have H:=jq h;obtain⟨A,c,rfl,bD,bL,ka⟩:=h;clear ka;have cC:∀ o,Below w.heap.size w (w.alloc o):=λo=>(vQ _ w).alloc (bQ _) _;have aB:=jq cC;clear cC;go_enter func46,ntmps46;go_wp2_with fail;refine (Vy (R:=cV) dT 94 (enters_of func94 (by kernel_rfl) rfl) _ (λs=>decide (s.frm<=t)&&decide (t<s.til)) _ l _ _ (bQ _) ?_ ?_).mono ?_
 ·exact (H.out.keep dT (aB.out _)).more jb (by simp)
 ·intro W x e0 e1 hx hW AL DY;simp only[cV,List.cons.injEq,and_true] at DY;obtain⟨rfl,rfl⟩:=DY;refine WU w.heap.size t x.frm x.til W ?_;rw[hW.cell (by simp)];go_simp
 ·rintro e w1 ⟨rfl,hb⟩;have HB:=jq hb;clear hb;go_wp2_with fail;go_ret;exact⟨rfl,(aB.out _).trans (HB.out.mono (by simp))⟩
def Np.Cz(p:Option Int)(s:Np.Span):Bool:=decide (0<=s.frm)&&(decide (s.frm<s.til)&&(decide (s.til<=20000000)&&(match p with | none=>true | some u=>decide (u<s.frm))))
def Np.sm:Option Int->List Np.Span->Bool
 | _,[]=>true
 | p,s::r=>Np.Cz p s&&Np.sm (some s.til) r
def Np.y9(l:List Np.Span):Bool:=decide (l.length<=20000)&&Np.sm none l
end
section
open Go.RowKit Go.Sort Go.Shelf
section
variable {α:Type} [Inhabited α]
theorem Hu(enc:α->List Value)(k:Nat)(hk:∀ x,(enc x).length=k)(h0:0<k)(xs:List α):(flatK enc k xs.toArray).toList=(xs.map enc).flatten:=by
 have hlen:(xs.map enc).flatten.length=xs.length * k:=by
  clear h0
  induction xs with
  | nil=>simp
  | cons y ys ih=>rw[List.map_cons,List.flatten_cons,List.length_append,ih,hk,List.length_cons,Nat.succ_mul];omega
 apply List.ext_getElem?;intro t;by_cases ht:t<xs.length * k
 ·have h1:t / k<xs.length:=(Nat.div_lt_iff_lt_mul h0).2 ht;have h2:t % k<k:=Nat.mod_lt _ h0;have hr:(xs.map enc)[t / k]?=some (enc xs[t / k]):=by simp[h1]
  have hu:(enc xs[t / k])[t % k]?=some ((enc xs[t / k])[t % k]'(by rw[hk];exact h2)):=aQ _;have h3:=DL (xs.map enc) (t / k) (t % k) _ _ (by intro r hr;obtain⟨x,_,rfl⟩:=List.mem_map.1 hr;exact hk x) hr hu;rw[show t / k * k+t % k=t by rw[Nat.mul_comm];exact Nat.div_add_mod t k] at h3;rw[h3];have hs:t<(flatK enc k xs.toArray).size:=by simpa using ht
  rw[Array.getElem?_toList,pQ hs];congr 1;have h4:=get_flatK enc k xs.toArray t (by simpa using ht);rw[getElem!_pos (flatK enc k xs.toArray) t hs] at h4;rw[h4];rw[getElem!_pos xs.toArray (t / k) (by simpa using h1)];rw[getElem!_pos _ (t % k) (by rw[hk];exact h2)];simp
 ·rw[List.getElem?_eq_none (by simp;omega),List.getElem?_eq_none (by rw[hlen];omega)]
theorem Yp(enc:α->List Value)(k:Nat)(hk:∀ x,(enc x).length=k)(h0:0<k){w:World}{g:Nat}{cur:Array Value}{e:TypeId}{xs:List α}(hb:w.heap[g]?=some (.cells cur e (0,0)))(ht:cur.toList.take (xs.length * k)=(xs.map enc).flatten):HoldsK enc k w g 0 xs.toArray:=by
 intro j hj;have hj':j<xs.length * k:=by simpa using hj
 refine⟨?_,by simp[World.frozen?,hb]⟩;have h1:(cur.toList.take (xs.length * k))[j]?=(flatK enc k xs.toArray).toList[j]?:=by rw[ht,Hu enc k hk h0]
 rw[List.getElem?_take_of_lt hj'] at h1;simp only[World.cell?,hb,Nat.zero_add,Option.isSome_none,Bool.false_eq_true,if_false];rw[<-Array.getElem?_toList,h1];have hs:j<(flatK enc k xs.toArray).size:=by simpa using hj'
 rw[Array.getElem?_toList,pQ hs,getElem!_pos _ j hs];rfl
theorem XG(enc:α->List Value)(k:Nat){w:World}{g n:Nat}{os:Array Obj}{cur:Array Value}{e:TypeId}{fr:Nat×Nat}(d:Array α)(hb:w.heap[g]?=some (.cells cur e fr)) :
 (sortWorldK enc k w g 0 n d os).heap[g]?=some (.cells (putCells id 0 (flatK enc k d) cur) e fr):=by
 have hl:g<w.heap.size:=(eQ.1 hb).1;unfold sortWorldK putRowK;rw[heap_grow_old _ _ (by simpa [putRow,mapBlock,Sort.ahead] using hl)];simp[putRow,mapBlock,Sort.ahead,Array.getElem?_modify,hb,onCells]
theorem Wx(enc:α->List Value)(k:Nat){w:World}{g n:Nat}{os:Array Obj}(d:Array α):w.grownBy (sortWorldK enc k w g 0 n d os) (some g):=by
 unfold sortWorldK putRowK;refine⟨rfl,rfl,rfl,by simp,λq hq hne=>?_⟩;rw[heap_grow_old _ _ (by simpa using hq)]
 have:g≠q:=λe=>hne (by rw[e])
 simp[putRow,mapBlock,Sort.ahead,Array.getElem?_modify,this]
theorem ahK(enc:α->List Value)(k:Nat)(hk:∀ x,(enc x).length=k)(h0:0<k){w:World}{base g cap n:Nat}{e:TypeId}{os:Array Obj}{cur:Array Value}{xs ys:List α}(hl:ys.length=xs.length)(dV:base<=g)(hb:w.heap[g]?=some (.cells cur e (0,0)))
 (h1:xs.length<=cap) (h2:cap<=maxLen) (h3:cur.size=cap * k) :
 (sortWorldK enc k w g 0 n ys.toArray os).ownsRow base e k (.slice (some ⟨g,0,none⟩) xs.length cap) xs.length (ys.map enc).flatten:=by
 have yl:(ys.map enc).flatten.length=ys.length * k:=by
  rw[<-Hu enc k hk h0 ys];simp
 have gk:ys.length * k<=cur.size:=by rw[h3];exact Nat.mul_le_mul_right k (by omega)
 refine⟨by rw[yl,hl],.inr ⟨g,cap,_,rfl,dV,XG enc k _ hb,h1,h2,by simp[putCells,h3],?_⟩⟩;rw[<-hl];apply List.ext_getElem?;intro j;by_cases hj:j<ys.length * k
 ·rw[List.getElem?_take_of_lt hj,Array.getElem?_toList,<-Hu enc k hk h0 ys];have hs:j<(flatK enc k ys.toArray).size:=by simpa using hj
  rw[Array.getElem?_toList,pQ hs];have tw:j<cur.size:=by omega
  simp[putCells,hj,tw]
 ·rw[List.getElem?_take_eq_none (by omega),List.getElem?_eq_none (by rw[yl];omega)]
end
def fC(s:Np.Span):List Value:=[.int .i64 s.frm,.int .i64 s.til]
def aK(base:Nat)(w:World)(v:Value)(ps:List Np.Span):Prop:=w.ownsRow base 110 2 v ps.length (ps.map fC).flatten
theorem aK.form{base:Nat}{w:World}{v:Value}{ps:List Np.Span}(h:aK base w v ps):∃ A c,v = .slice A ps.length c:=yS h
theorem aK.alloc{base:Nat}{w:World}{v:Value}{ps:List Np.Span}(h:aK base w v ps)(o:Obj):aK base (w.alloc o) v ps:=World.ownsRow.alloc h o
theorem aK.keep{base:Nat}{w w':World}{v:Value}{ps:List Np.Span}(h:aK base w v ps)(hb:Below w.heap.size w w'):aK base w' v ps:=gp h (λg hg=>hb.block g (h.lt g hg).2)
theorem aK.nil(base:Nat)(w:World):aK base w (.slice none 0 0) []:=⟨by simp,.inl ⟨rfl,rfl⟩⟩
theorem aK.slr{base:Nat}{w:World}{v:Value}{ps:List Np.Span}(h:aK base w v ps)(hl:ps.length<=140737488355328):SlR cV 2 w w.heap.size v ps:=by
 refine JV (sz:=2) (e:=110) (base:=base) fC (λ_ _=>rfl) ?_ hl (λx hx=>rfl)
 have:w.ownsRow base 110 2 v ps.length (ps.map fC).flatten:=h
 rwa [<-List.flatMap_def] at this
theorem Tryz.infoSpan:(prog.info? 110).map (λi=>(i.zero,i.size,i.bytes))=some (some (.agg #[.int .i64 0,.int .i64 0]),2,16):=by kernel_rfl
section
variable {ops:Array Oper} {rest:List Oper} {o:Oper} {a:Act} {Q:Exit->Act->World->Prop}
theorem sA(w:World)(iA:o.guard=none)(s x:Operand)(ho:o.op = .call { callee:=.builtin .append,args:=#[s,x],argTypes:=#[55,55] })
 (base:Nat) (v:Value) (ps:List Np.Span) (hs:a.eval s=v) (hown:aK base w v ps) (blk:Nat) (f u:Int) (hx:a.eval x = .slice (some ⟨blk,0,none⟩) 1 1) (hc:w.cell? ⟨blk,0,none⟩=some (.int .i64 f)) (bD:w.cell? ⟨blk,1,none⟩=some (.int .i64 u)) (hlen:ps.length<=100000) (dV:base<=w.heap.size)
 (h:∀ v' w',aK base w' v' (ps ++ [⟨f,u⟩])->Below base w w'->wpList prog ops Q rest (a.put o.dst v') w'):wpList prog ops Q (o::rest) a w:=by
 obtain⟨i0,hi,dZ,bh,aM⟩:=info_parts Tryz.infoSpan;refine wpList_append_own_at w iA s x 55 ho base 110 i0 (.agg #[.int .i64 0,.int .i64 0]) 2 16 underlying55 hi dZ bh aM rfl (by decide) v ps.length (ps.map fC).flatten hs hown ⟨blk,0,none⟩ 1 1 [.int .i64 f,.int .i64 u] hx rfl ?_ (by simp[Value.oneCell']) (by unfold maxLen;omega) (by omega) dV ?_
 ·intro j y hj
  match j,hj with
  | 0,hj=>simp at hj;subst hj;simpa [Addr.add] using hc
  | 1,hj=>simp at hj;subst hj;simpa [Addr.add] using bD
  | j+2,hj=>simp at hj
 ·intro v' w' ho' hg _ _;refine h v' w' ?_ ((vQ _ _).grown hg dV (λk hk=>(hown.lt k hk).1));have e:(ps ++ [(⟨f,u⟩:Np.Span)]).length=ps.length+1:=by simp
  unfold aK;rw[e,List.map_append,List.flatten_append];exact ho'
end
theorem Wn(f u:Int)(w:World) :
 Calls prog 177 #[.agg #[.int .i64 f,.int .i64 u]] w λe w'=>e = .returned (.bool (decide (f<u)))/\Below w.heap.size w w':=by
 have HB:Hid (∀ o,Below w.heap.size w (w.alloc o)):=jq (λo=>(vQ _ w).alloc (bQ _) _);go_enter func177,ntmps177;go_wp2_with fail;go_ret;exact⟨rfl,HB.out _⟩
theorem ayK(v:Value)(l:List Np.Span)(bM:l.length<=20000)(hf:∀ s∈l,s.frm<s.til)(w:World)(h:SlR cV 2 w w.heap.size v l) :
 Calls prog 176 #[v,.func (.func 177) #[] #[]] w λe w'=>∃ v',e = .returned v'/\aK w.heap.size w' v' l/\Below w.heap.size w w':=by
 have HD:=jq h;have HF:=jq hf;obtain⟨A,c,rfl,bD,bL⟩:=al h;clear h hf;have HE:=jq (enters_of func177 (by kernel_rfl) rfl);go_enter func176,ntmps176;go_wp2_with fail;go_loopw [5,10] (λvo i wr=>∃ (k:Nat),k<=l.length/\i = .int .i64 k/\Hid (Below w.heap.size w wr)/\Hid (aK w.heap.size wr vo (l.take k))) (λ_ i _=>l.length - (intOf i).toNat)
 case atStart=>exact⟨0,jQ _,rfl,jq (vQ _ _),jq (aK.nil _ _)⟩
 case round=>
  obtain⟨k,hk,rfl,HB,HO⟩:=hrel;have ap:=HB.out.size;by_cases aa:k<l.length
  ·obtain⟨x,ab⟩:∃ x,l[k]?=some x:=⟨_,aQ aa⟩;obtain⟨A',c',hA',_,_,bV⟩:=HD.out.keep dT HB.out
   cases hA'
   obtain⟨b,o,e,rfl,bC,hlen,hce,hR⟩:=bV k _ ab;obtain rfl:=hR;have h0:wr.cell? ⟨b,o+k * 2,none⟩=some (.int .i64 x.frm):=hce 0 _ rfl;have h1:wr.cell? ⟨b,o+k * 2+1,none⟩=some (.int .i64 x.til):=hce 1 _ rfl;have hd:decide (x.frm<x.til)=true:=uQ (HF.out x (gQ ab));have HT:Hid (l.take (k+1)=l.take k ++ [x]):=jq (by
    obtain⟨hl,he⟩:=cQ.1 ab;rw[fQ hl,he])
   have HL:Hid ((l.take k).length<=100000):=jq (by rw[List.length_take];omega);obtain⟨f,u⟩:=x;have cK:b<wr.heap.size:=by omega
   clear bV hce ab;dsimp only at h0 h1 hd;have bg:Hid (∀ o,Below w.heap.size w (wr.alloc o)):=jq (λo=>HB.out.alloc HB.out.size _);go_wp2_with (fail);refine (Wn f u _).mono ?_;rintro e w2 ⟨rfl,ac⟩;rw[hd];have ak:Hid (Below w.heap.size w w2):=jq ((bg.out _).trans (ac.mono (by simp;omega)));have aT:Hid (aK w.heap.size w2 u5 (l.take k)):=jq ((HO.out.alloc _).keep ac);have c0:w2.cell? ⟨wr.heap.size,0,none⟩=some (.int .i64 f):=by rw[ac.cell (by simp)];simp[go_sem]
   have c1:w2.cell? ⟨wr.heap.size,1,none⟩=some (.int .i64 u):=by rw[ac.cell (by simp)];simp[go_sem]
   have aM:wr.heap.size<w2.heap.size:=by have:=ac.size;simp at this;omega
   clear ac;go_wp2_with (at_builtin;refine sA _ rfl _ _ rfl w.heap.size _ (l.take k) rfl (aT.out.alloc _) w2.heap.size f u (by simp[go_sem]) (by simp[go_sem]) (by simp[go_sem]) HL.out (by simp;omega) ?_;intro v5 w5 dp aC;have H5:=jq (And.intro dp aC);clear dp aC);go_roundw
   case rel=>exact⟨k+1,by omega,by go_num,jq ((ak.out.alloc (by omega) _).trans H5.out.2),jq (by rw[HT.out];exact H5.out.1)⟩
   case measure=>simp[intOf] <;> omega
  ·have HE':Hid (l.take k=l):=jq (kQ (by omega));go_wp2_with fail;go_ret;exact⟨_,rfl,by have:=HO.out;rwa [HE'.out] at this,HB.out⟩
instance:Inhabited Np.Span:=⟨⟨0,0⟩⟩
theorem aeY(f u f' u':Int)(w:World) :
 Calls prog 178 #[.agg #[.int .i64 f,.int .i64 u],.agg #[.int .i64 f',.int .i64 u']] w λe w'=>e = .returned (.int .i64 (Np.cr f f'))/\∃ q os,w'=grow (w.drewN q) os:=by
 go_enter func178,ntmps178;go_wp2_with (go_at_call 123;refine (AD _ _ _).mono ?_;rintro e w' ⟨rfl,rfl⟩);go_ret;exact⟨rfl,0,_,by rw[alloc_eq_grow,alloc_eq_grow,grow_grow];rfl⟩
theorem EN(x y:Np.Span):ltOf (λx y:Np.Span=>Np.cr x.frm y.frm) x y=decide (x.frm<y.frm):=by
 unfold ltOf Np.cr;by_cases h1:x.frm<y.frm
 ·simp[h1]
 ·by_cases h2:y.frm<x.frm <;> simp[h1,h2]
theorem aBY:SWO (ltOf λx y:Np.Span=>Np.cr x.frm y.frm) where
 irrefl x:=by rw[EN];simp
 trans x y z h1 h2:=by rw[EN] at *;simp at *;omega
 ntrans x y z h1 h2:=by rw[EN] at *;simp at *;omega
theorem azY{d d':Array Np.Span}(hp:PermIn 0 d.size d d')(hs:SortedIn (ltOf λx y:Np.Span=>Np.cr x.frm y.frm) 0 d.size d'):d'.toList.Perm d.toList/\d'.toList.Pairwise λa b=>a.frm<=b.frm:=by
 obtain⟨h1,_,h3⟩:=hp;refine⟨?_,?_⟩
 ·have e1:d'.extract 0 d.size=d':=by rw[<-h1];simp
  have e2:d.extract 0 d.size=d:=by simp
  rwa [e1,e2] at h3
 ·rw[List.pairwise_iff_getElem];intro i j hi hj dD
  have:=hs i j (jQ _) dD (by rw[<-h1];simpa using hj)
  rw[EN,getElem!_pos d' i (by simpa using hi),getElem!_pos d' j (by simpa using hj)] at this;simpa using this
theorem Rh(fid:FuncId)(XK:∀ (f u f' u':Int) (w:World),Calls prog fid #[.agg #[.int .i64 f,.int .i64 u],.agg #[.int .i64 f',.int .i64 u']] w λe w'=>e = .returned (.int .i64 (Np.cr f f'))/\∃ q os,w'=grow (w.drewN q) os)(eg:∀ args w,(callFunc fid args).run prog w = .ok (.enter fid args) w)(base:Nat)(v:Value)(xs:List Np.Span)(w:World)(hown:aK base w v xs)(hl:xs.length<=100000) :
 Calls prog 121 #[v,.func (.func fid) #[] #[]] w λe w'=>e = .returned (.tuple #[])/\∃ ys:List Np.Span,ys.Perm xs/\ys.Pairwise (λa b=>a.frm<=b.frm)/\aK base w' v ys/\w.grownBy w' v.ownBlock:=by
 have pg:w.ownsRow base 110 2 v xs.length (xs.map fC).flatten:=hown;rcases pg.2 with ⟨rfl,h0⟩ | ⟨g,cap,cur,rfl,dV,hb,h1,h2,h3,h4⟩
 ·have:xs = []:=rQ h0
  subst this;refine (AnyF.slices_SortFunc_none Tryz.sortSpan none 0 _ w).mono ?_;intro e w' hh;obtain⟨rfl,rfl⟩:=hh;exact⟨rfl,[],List.Perm.refl _,List.Pairwise.nil,hown,⟨rfl,rfl,rfl,bQ _,λ_ _ _=>rfl⟩⟩
 have aE:∀ w,(isAgg 110).run prog w = .ok true w:=λw=>by kernel_rfl
 have zE:∀ w,(Go.sizeOf 110).run prog w = .ok 2 w:=λw=>by kernel_rfl
 have hH:=Yp fC 2 (λ_=>rfl) (by omega) hb h4;have Bm:CmpLays prog fid #[] fC 2 (λx y:Np.Span=>Np.cr x.frm y.frm) g 0 xs.toArray.size w:=λm os dk _ x y=>XK x.frm x.til y.frm y.til _;have Ec:=AnyQ.slices_SortFunc Tryz.sortSpan 2 aE zE fC (λ_=>rfl) (λx u hu=>by simp only[fC,List.mem_cons,Qh,or_false] at hu;rcases hu with rfl | rfl <;> rfl) (λx y:Np.Span=>Np.cr x.frm y.frm) aBY fid #[] g 0 cap xs.toArray w eg Bm hH (eQ.1 hb).1 (by simp;omega);refine Ec.mono λe w' ⟨he,d',n,os,hp,hs,hw⟩=>⟨he,d'.toList,?_⟩;obtain⟨p1,p2⟩:=azY hp hs;have hlen:d'.toList.length=xs.length:=by simpa using p1.length_eq
 refine⟨by simpa using p1,p2,?_,?_⟩
 ·subst hw;unfold aK;rw[hlen]
  have:=ahK fC 2 (λ_=>rfl) (by omega) (n:=n) (os:=os) hlen dV hb h1 h2 h3
  simpa using this
 ·subst hw;exact Wx fC 2 _
theorem azK(base:Nat)(v:Value)(xs:List Np.Span)(w:World)(hown:aK base w v xs)(hl:xs.length<=100000) :
 Calls prog 121 #[v,.func (.func 178) #[] #[]] w λe w'=>e = .returned (.tuple #[])/\∃ ys:List Np.Span,ys.Perm xs/\ys.Pairwise (λa b=>a.frm<=b.frm)/\aK base w' v ys/\w.grownBy w' v.ownBlock:=
 Rh _ aeY (enters_of func178 (by kernel_rfl) rfl) base v xs w hown hl
theorem Rx:∀ (l o:List Np.Span),(l.foldl Np.fO o).length<=o.length+l.length:=by
 intro l
 induction l with
 | nil=>intro o;simp
 | cons s l ih=>
  intro o;have h1:(Np.fO o s).length<=o.length+1:=by
   rcases List.eq_nil_or_concat o with rfl | ⟨q,p,rfl⟩
   ·simp[Np.Rw]
   ·rw[List.concat_eq_append,Np.Ka];split <;> simp
  have:=ih (Np.fO o s)
  rw[List.foldl_cons,List.length_cons];omega
theorem Wf(q:List Np.Span)(p:Np.Span)(u:Int):(((q ++ [p]).map fC).flatten).set (q.length * 2+1) (.int .i64 u)=((q ++ [(⟨p.frm,u⟩:Np.Span)]).map fC).flatten:=by
 have hl:((q.map fC).flatten).length=q.length * 2:=by rw[<-List.flatMap_def];induction q with | nil=>rfl | cons a q ih=>simp[List.flatMap_cons,ih,fC];omega
 rw[List.map_append,List.flatten_append,List.map_append,List.flatten_append,List.set_append_right _ _ (by rw[hl];omega),hl];congr 1;rw[show q.length * 2+1 - q.length * 2=1 by omega];rfl
theorem We(q:List Np.Span)(p:Np.Span)(j:Nat):(((q ++ [p]).map fC).flatten)[q.length * 2+j]?=(fC p)[j]?:=by
 have hl:((q.map fC).flatten).length=q.length * 2:=by rw[<-List.flatMap_def];induction q with | nil=>rfl | cons a q ih=>simp[List.flatMap_cons,ih,fC];omega
 rw[List.map_append,List.flatten_append,oQ (by rw[hl];omega),hl];simp
theorem aDX(v:Value)(l:List Np.Span)(bM:l.length<=20000)(w:World)(h:SlR cV 2 w w.heap.size v l) :
 Calls prog 179 #[v] w (λe w'=>∃ v',e = .returned v'/\aK w.heap.size w' v' (l.foldl Np.fO [])/\Below w.heap.size w w'):=by
 have HD:=jq h;obtain⟨A,c,rfl,bD,bL⟩:=al h;clear h;have HN:Hid (∀ k,((l.take k).foldl Np.fO []).length<=k):=jq (λk=>yQ (Rx _ _) (by simp;omega));go_enter func179,ntmps179;go_wp2_with fail;go_loopw [3,9] (λvo i wr=>∃ (k:Nat),k<=l.length/\i = .int .i64 k/\Hid (Below w.heap.size w wr)/\Hid (aK w.heap.size wr vo ((l.take k).foldl Np.fO []))) (λ_ i _=>l.length - (intOf i).toNat)
 case atStart=>exact⟨0,jQ _,rfl,jq (vQ _ _),jq (aK.nil _ _)⟩
 case round=>
  obtain⟨k,hk,rfl,HB,HO⟩:=hrel;have ap:=HB.out.size;by_cases aa:k<l.length
  ·obtain⟨x,ab⟩:∃ x,l[k]?=some x:=⟨_,aQ aa⟩;obtain⟨A',c',hA',_,_,bV⟩:=HD.out.keep dT HB.out
   cases hA'
   obtain⟨b,o,e,rfl,bC,hlen,hce,hR⟩:=bV k _ ab;obtain rfl:=hR;have h0:wr.cell? ⟨b,o+k * 2,none⟩=some (.int .i64 x.frm):=hce 0 _ rfl;have h1:wr.cell? ⟨b,o+k * 2+1,none⟩=some (.int .i64 x.til):=hce 1 _ rfl;have HT:Hid ((l.take (k+1)).foldl Np.fO []=Np.fO ((l.take k).foldl Np.fO []) x):=jq (by
    obtain⟨hl,he⟩:=cQ.1 ab;rw[fQ hl,he,List.foldl_append];rfl)
   have cK:b<wr.heap.size:=by omega
   have bg:Hid (∀ o,Below w.heap.size w (wr.alloc o)):=jq (λo=>HB.out.alloc HB.out.size _);have yy:=HN.out k;obtain⟨fr,ti⟩:=x;clear bV hce ab;dsimp only at h0 h1;obtain⟨ol,OH⟩:∃ ol,(l.take k).foldl Np.fO []=ol:=⟨_,rfl⟩;rw[OH] at HO HT yy;clear OH;rcases List.eq_nil_or_concat ol with rfl | ⟨q,p,rfl⟩
   ·obtain⟨A0,c0,rfl⟩:=aK.form HO.out;go_wp2_with fail;go_quiet (fail);obtain⟨w2,ae⟩:∃ w2,(wr.alloc (.cells #[.int .i64 fr,.int .i64 ti] 110)).drewN nq=w2:=⟨_,rfl⟩;have aM:w2.heap.size=wr.heap.size+1:=by rw[<-ae];simp
    have c0:w2.cell? ⟨wr.heap.size,0,none⟩=some (.int .i64 fr):=by rw[<-ae];simp[go_sem]
    have c1:w2.cell? ⟨wr.heap.size,1,none⟩=some (.int .i64 ti):=by rw[<-ae];simp[go_sem]
    have gP:Below wr.heap.size wr w2:=by rw[<-ae];exact below_drewN ((vQ _ _).alloc (bQ _) _) _
    have ak:Hid (Below w.heap.size w w2):=jq (HB.out.trans (gP.mono ap));have aT:Hid (aK w.heap.size w2 _ []):=jq (HO.out.keep gP);rw[ae];clear ae gP;go_wp2_with (at_builtin;refine sA _ rfl _ _ rfl w.heap.size _ [] rfl (aT.out.alloc _) w2.heap.size fr ti (by simp[go_sem]) (by simp[go_sem]) (by simp[go_sem]) (by simp) (by simp;omega) ?_;intro v5 w5 dp aC;have H5:=jq (And.intro dp aC);clear dp aC);go_roundw
    case rel=>exact⟨k+1,by omega,by go_num,jq ((ak.out.alloc (by omega) _).trans H5.out.2),jq (by rw[HT.out];exact H5.out.1)⟩
    case measure=>simp[intOf] <;> omega
   ·rw[List.concat_eq_append] at HO HT yy;have hown:wr.ownsRow w.heap.size 110 2 u3 (q ++ [p]).length ((q ++ [p]).map fC).flatten:=HO.out;have zG:=jq (We q p);have SX:=jq (Wf q p);have Ti:Hid ((q ++ [p]).length<=100000):=jq (by omega);have mK:(q ++ [p]).length=q.length+1:=by simp
    have hqk:q.length+1<=k:=by rw[mK] at yy;exact yy
    clear yy;rcases hown.2 with ⟨_,Wz⟩ | ⟨g,cap,cur,rfl,dV,hb,bp,bJ,_,_⟩
    ·rw[mK] at Wz;omega
    have fP:=jq hown;have lg:g<wr.heap.size:=(eQ.1 hb).1;clear hb hown;obtain⟨M,hM⟩:∃ M,(q ++ [p]).length=M:=⟨_,rfl⟩;obtain⟨m,hm⟩:∃ m,q.length=m:=⟨_,rfl⟩;have g0:wr.cell? ⟨g,m * 2,none⟩=some (.int .i64 p.frm):=by
     rw[<-hm,fP.out.cellAt _ (by rw[mK];omega)]
     have:=zG.out 0
     rwa [Nat.add_zero] at this
    have g1:wr.cell? ⟨g,m * 2+1,none⟩=some (.int .i64 p.til):=by
     rw[<-hm,fP.out.cellAt _ (by rw[mK];omega)];exact zG.out 1
    have gf:wr.frozen? ⟨g,m * 2+1,none⟩=false:=fP.out.frozenAt _;rw[mK,hm] at hM;have hq:IntKind.i64.wrap ((M:Int) - 1)=(m:Int):=by rw[show (M:Int) - 1=m by omega];simp[IntKind.wrap,IntKind.bits,IntKind.signed];omega
    have hM0:decide (0<(M:Int))=true:=uQ (by omega);have aPK:decide (0<M)=true:=uQ (by omega);have hmM:m<M:=by omega
    have aXY:(m:Int)<(M:Int):=by omega
    have iU:(0:Int)<=(m:Int):=by omega
    have HM:Hid ((q ++ [p]).length=M):=jq (by rw[mK,hm,hM]);rw[HM.out] at bp;have HM2:=jq hM;have HQ:=jq hm;have pK:=jq (Np.Ka q p ⟨fr,ti⟩);clear hM hm mK;rw[HM.out];by_cases gk:fr<=p.til
    ·have hd:decide (fr<=p.til)=true:=uQ gk;have gX:Hid ((l.take (k+1)).foldl Np.fO []=q ++ [⟨p.frm,max p.til ti⟩]):=jq (by rw[HT.out,pK.out,Qb gk]);clear gk;go_wp2_with fail;go_quiet (fail);obtain⟨w2,ae⟩:∃ w2,(wr.alloc (.cells #[.int .i64 fr,.int .i64 ti] 110)).drewN nq=w2:=⟨_,rfl⟩;have aM:w2.heap.size=wr.heap.size+1:=by rw[<-ae];simp
     have c0:w2.cell? ⟨wr.heap.size,0,none⟩=some (.int .i64 fr):=by rw[<-ae];simp[go_sem]
     have c1:w2.cell? ⟨wr.heap.size,1,none⟩=some (.int .i64 ti):=by rw[<-ae];simp[go_sem]
     have gP:Below wr.heap.size wr w2:=by rw[<-ae];exact below_drewN ((vQ _ _).alloc (bQ _) _) _
     have ak:Hid (Below w.heap.size w w2):=jq (HB.out.trans (gP.mono ap));have aT:Hid (aK w.heap.size w2 (.slice (some ⟨g,0,none⟩) M cap) (q ++ [p])):=jq (HM.out ▸ HO.out.keep gP);rw[ae];clear ae;have d1:w2.cell? ⟨g,m * 2+1,none⟩=some (.int .i64 p.til):=(gP.cell lg).trans g1;have df:w2.frozen? ⟨g,m * 2+1,none⟩=false:=(gP.frozen lg).trans gf;clear gP g0 g1 gf;go_wp2_with fail;go_region;have cN:Hid (aK w.heap.size (w2.setCell ⟨g,m * 2+1,none⟩ (.int .i64 (max p.til ti))).drew (.slice (some ⟨g,0,none⟩) M cap) (q ++ [⟨p.frm,max p.til ti⟩])/\Below w.heap.size w (w2.setCell ⟨g,m * 2+1,none⟩ (.int .i64 (max p.til ti))).drew):=jq (by
      have h1:w2.ownsRow w.heap.size 110 2 (.slice (some ⟨g,0,none⟩) (q ++ [p]).length cap) (q ++ [p]).length ((q ++ [p]).map fC).flatten:=by
       have:=aT.out
       rw[<-HM.out] at this;exact this
      obtain⟨h2,h3⟩:=World.ownsRow.stored h1 (m * 2+1) (.int .i64 (max p.til ti));refine⟨aK.keep (w:=w2.setCell ⟨g,m * 2+1,none⟩ (.int .i64 (max p.til ti))) ?_ (vQ _ _).drew,(ak.out.grown h3 ak.out.size (λk hk=>by simp at hk;omega)).drew⟩;rw[<-HQ.out] at h2 |-;rw[SX.out] at h2;have e1:(q ++ [(⟨p.frm,max p.til ti⟩:Np.Span)]).length=(q ++ [p]).length:=by simp
      unfold aK;rw[e1,<-HM.out];exact h2)
     go_wp2_with fail;go_roundw
     case rel=>exact⟨k+1,by omega,by go_num,jq cN.out.2,jq (by rw[gX.out];exact cN.out.1)⟩
     case measure=>simp[intOf] <;> omega
    ·have hd:decide (fr<=p.til)=false:=tQ gk;have gX:Hid ((l.take (k+1)).foldl Np.fO []=q ++ [p] ++ [⟨fr,ti⟩]):=jq (by rw[HT.out,pK.out,Qc gk]);clear gk;go_wp2_with fail;go_quiet (fail);obtain⟨w2,ae⟩:∃ w2,(wr.alloc (.cells #[.int .i64 fr,.int .i64 ti] 110)).drewN nq=w2:=⟨_,rfl⟩;have aM:w2.heap.size=wr.heap.size+1:=by rw[<-ae];simp
     have c0:w2.cell? ⟨wr.heap.size,0,none⟩=some (.int .i64 fr):=by rw[<-ae];simp[go_sem]
     have c1:w2.cell? ⟨wr.heap.size,1,none⟩=some (.int .i64 ti):=by rw[<-ae];simp[go_sem]
     have gP:Below wr.heap.size wr w2:=by rw[<-ae];exact below_drewN ((vQ _ _).alloc (bQ _) _) _
     have ak:Hid (Below w.heap.size w w2):=jq (HB.out.trans (gP.mono ap));have aT:Hid (aK w.heap.size w2 (.slice (some ⟨g,0,none⟩) M cap) (q ++ [p])):=jq (HM.out ▸ HO.out.keep gP);rw[ae];clear ae;clear gP g0 g1 gf;go_wp2_with (at_builtin;refine sA _ rfl _ _ rfl w.heap.size _ (q ++ [p]) rfl (aT.out.alloc _) w2.heap.size fr ti (by simp[go_sem]) (by simp[go_sem]) (by simp[go_sem]) Ti.out (by simp;omega) ?_;intro v5 w5 dp aC;have H5:=jq (And.intro dp aC);clear dp aC);go_roundw
     case rel=>exact⟨k+1,by omega,by go_num,jq ((ak.out.alloc (by omega) _).trans H5.out.2),jq (by rw[gX.out];exact H5.out.1)⟩
     case measure=>simp[intOf] <;> omega
  ·have HE':Hid (l.take k=l):=jq (kQ (by omega));go_wp2_with fail;go_ret;exact⟨_,rfl,by have:=HO.out;rwa [HE'.out] at this,HB.out⟩
def Np.Ak(s:Np.Span):Prop:=0<=s.frm/\s.frm<s.til/\s.til<=20000000
theorem aK.weak{base base':Nat}{w:World}{v:Value}{ps:List Np.Span}(h:aK base w v ps)(hb:base'<=base):aK base' w v ps:=by
 refine⟨h.1,?_⟩;rcases h.2 with h2 | ⟨g,cap,cur,h1,h2,h3⟩
 ·exact .inl h2
 ·exact .inr ⟨g,cap,cur,h1,yQ hb h2,h3⟩
theorem ql(l:List Np.Span):(Np.cP l).length<=l.length:=by
 have:=Rx (l.mergeSort λa b=>decide (a.frm<=b.frm)) []
 simpa [Np.cP] using this
theorem P4(v:Value)(l:List Np.Span)(bM:l.length<=20000)(hin:∀ s∈l,Np.Ak s)(w:World)(h:SlR cV 2 w w.heap.size v l) :
 Calls prog 109 #[v] w (λe w'=>∃ v',e = .returned (.tuple #[v',.int .i64 0])/\aK w.heap.size w' v' (Np.cP l)/\Below w.heap.size w w'):=by
 have HD:=jq h;have lN:=jq hin;obtain⟨A,c,rfl,bD,bL⟩:=al h;clear h hin;have gk:decide (20000<(l.length:Int))=false:=tQ (by omega);go_enter func109,ntmps109;go_wp2_with fail;go_loopw [12] (λi wr=>∃ (k:Nat),k<=l.length/\i = .int .i64 k/\Hid (Below w.heap.size w wr)) (λi _=>l.length - (intOf i).toNat)
 case atStart=>exact⟨0,jQ _,rfl,jq (vQ _ _)⟩
 case round=>
  obtain⟨k,hk,rfl,HB⟩:=hrel;have ap:=HB.out.size;by_cases aa:k<l.length
  ·obtain⟨x,ab⟩:∃ x,l[k]?=some x:=⟨_,aQ aa⟩;obtain⟨A',c',hA',_,_,bV⟩:=HD.out.keep dT HB.out
   cases hA'
   obtain⟨b,o,e,rfl,bC,hlen,hce,hR⟩:=bV k _ ab;obtain rfl:=hR;have h0:wr.cell? ⟨b,o+k * 2,none⟩=some (.int .i64 x.frm):=hce 0 _ rfl;have h1:wr.cell? ⟨b,o+k * 2+1,none⟩=some (.int .i64 x.til):=hce 1 _ rfl;obtain⟨i1,i2,i3⟩:=lN.out x (gQ ab);have gE:decide (x.frm<0)=false:=tQ (by omega);have iz:decide (x.til<x.frm)=false:=tQ (by omega);have IG:decide (20000000<x.til)=false:=tQ (by omega);have bg:Hid (∀ o,Below w.heap.size w (wr.alloc o)):=jq (λo=>HB.out.alloc HB.out.size _);have cK:b<wr.heap.size:=by omega
   obtain⟨fr,ti⟩:=x;clear bV hce ab i1 i2 i3;dsimp only at h0 h1 gE iz IG;go_wp2_with fail;go_roundw
   case rel=>exact⟨k+1,by omega,by go_num,jq (bg.out _)⟩
   case measure=>simp[intOf] <;> omega
  ·have dz:=jq (HD.out.keep dT HB.out);go_wp2_with fail;refine (ayK _ l bM (λs hs=>(lN.out s hs).2.1) _ ((dz.out.more jb ap))).mono ?_;rintro e w2 ⟨v2,rfl,ig,ac⟩;have aT:=jq ig;have ak:=jq (HB.out.trans (ac.mono ap));have aM:wr.heap.size<=w2.heap.size:=ac.size;clear ig ac;obtain⟨A2,c2,rfl⟩:=aT.out.form;go_wp2_with fail;refine (azK wr.heap.size _ l _ aT.out (by omega)).mono ?_;rintro e w3 ⟨rfl,ys,hp,hs,ke,pX⟩;have mR:ys.length=l.length:=hp.length_eq;have HY:Hid (ys.foldl Np.fO []=Np.cP l):=jq (Np.afJ (λs hs=>(lN.out s hs).2.1) hp hs);have gb:=jq ke;have am:Below wr.heap.size w2 w3:=(vQ _ _).grown pX aM (λk hk=>(World.ownsRow.lt aT.out k hk).1);have az:=jq (ak.out.trans (am.mono ap));clear hp hs ke pX;go_wp2_with fail;refine (aDX _ ys (by omega) _ (gb.out.slr (by omega))).mono ?_;rintro e w4 ⟨v4,rfl,lv,ar⟩;have HE:=jq (And.intro lv (az.out.trans (ar.mono az.out.size)));clear lv ar;go_wp2_with fail;go_ret2;exact⟨_,rfl,by have:=HE.out.1.weak az.out.size;rw[HY.out] at this;exact this,HE.out.2⟩
def Np.eH:List Np.Span->Np.Span->Bool->List Np.Span
 | [],s,put=>if put then [] else [s]
 | x::l,s,put=>if x.til<s.frm then x::eH l s put else if s.til<x.frm then (if put then [] else [s])++x::eH l s true else eH l ⟨min s.frm x.frm,max s.til x.til⟩ put
theorem RM:∀ (l:List Np.Span) (s:Np.Span),(∀ x∈l,s.til<x.frm/\x.frm<x.til)->s.frm<s.til->Np.eH l s true=l
 | [],_,_,_=>rfl
 | x::l,s,h,hs=>by
   obtain⟨h1,h2⟩:=h x (by simp);rw[Np.eH,Qc (by omega),Qb h1,RM l s (λy hy=>h y (mQ _ hy)) hs];rfl
theorem Kh:∀ (l:List Np.Span) (s:Np.Span),Np.ApartS l->s.frm<s.til->Np.eH l s false=Np.nt l s
 | [],_,_,_=>rfl
 | x::l,s,hl,hs=>by
   have hx:=hl.full x (by simp);rw[Np.eH,Np.nt];split
   ·rw[Kh l s hl.tail hs]
   ·split
    ·rename_i h1 h2;rw[RM l s (λy hy=>⟨?_,hl.full y (mQ _ hy)⟩) hs]
     ·rfl
     ·have:=(List.pairwise_cons.1 hl.apart).1 y hy
      omega
    ·exact Kh l _ hl.tail (by simp;omega)
theorem Fn:∀ (l:List Np.Span) (s:Np.Span),(Np.eH l s true).length<=l.length
 | [],_=>by simp[Np.eH]
 | x::l,s=>by
   rw[Np.eH];split
   ·have:=Fn l s;simp;omega
   ·split
    ·have:=Fn l s;simp;omega
    ·have:=Fn l ⟨min s.frm x.frm,max s.til x.til⟩;simp;omega
theorem Ki:∀ (l:List Np.Span) (s:Np.Span),(Np.eH l s false).length<=l.length+1
 | [],_=>by simp[Np.eH]
 | x::l,s=>by
   rw[Np.eH];split
   ·have:=Ki l s;simp;omega
   ·split
    ·have:=Fn l s;simp;omega
    ·have:=Ki l ⟨min s.frm x.frm,max s.til x.til⟩;simp;omega
structure SpBox(W:World)(b:Nat)(f u:Int):Prop where
 c0:W.cell? ⟨b,0,none⟩=some (.int .i64 f)
 c1:W.cell? ⟨b,1,none⟩=some (.int .i64 u)
 f0:W.frozen? ⟨b,0,none⟩=false
 f1:W.frozen? ⟨b,1,none⟩=false
 lt:b<W.heap.size
theorem SpBox.keep{W W':World}{b:Nat}{f u:Int}(h:SpBox W b f u){B:Nat}(hb:Below B W W')(hB:b<B):SpBox W' b f u:=
 ⟨(hb.cell hB).trans h.c0,(hb.cell hB).trans h.c1,(hb.frozen hB).trans h.f0,(hb.frozen hB).trans h.f1,lQ h.lt hb.size⟩
theorem SpBox.put0{W:World}{b:Nat}{f u:Int}(h:SpBox W b f u)(f':Int):SpBox (W.setCell ⟨b,0,none⟩ (.int .i64 f')) b f' u:=
 ⟨World.cell?_setCell_same _ _ _ h.c0,(xQ _ _ _ _ (by simp)).trans h.c1,(World.frozen?_setCell _ _ _ _).trans h.f0,(World.frozen?_setCell _ _ _ _).trans h.f1,by simpa using h.lt⟩
theorem SpBox.put1{W:World}{b:Nat}{f u:Int}(h:SpBox W b f u)(u':Int):SpBox (W.setCell ⟨b,1,none⟩ (.int .i64 u')) b f u':=
 ⟨(xQ _ _ _ _ (by simp)).trans h.c0,World.cell?_setCell_same _ _ _ h.c1,(World.frozen?_setCell _ _ _ _).trans h.f0,(World.frozen?_setCell _ _ _ _).trans h.f1,by simpa using h.lt⟩
theorem aK.other{base:Nat}{W:World}{v:Value}{ps:List Np.Span}(h:aK base W v ps){p:Addr}(hp:p.block<base)(u:Value):aK base (W.setCell p u) v ps:=ownsRow_setCell_below h hp u
structure SpAt(W:World)(b j:Nat)(f u:Int):Prop where
 c0:W.cell? ⟨b,j,none⟩=some (.int .i64 f)
 c1:W.cell? ⟨b,j+1,none⟩=some (.int .i64 u)
theorem SpAt.keep{W W':World}{b j:Nat}{f u:Int}(h:SpAt W b j f u){B:Nat}(hb:Below B W W')(hB:b<B):SpAt W' b j f u:=⟨(hb.cell hB).trans h.c0,(hb.cell hB).trans h.c1⟩
theorem qr{W:World}{B b o n c k:Nat}{l:List Np.Span}{x:Np.Span}(h:SlR cV 2 W B (.slice (some ⟨b,o,none⟩) n c) l)(hx:l[k]?=some x):b<B/\SpAt W b (o+k * 2) x.frm x.til:=by
 obtain⟨A',c',hA',_,_,bV⟩:=h
 cases hA'
 obtain⟨b',o',e,hA,bC,hlen,hce,hR⟩:=bV k _ hx
 cases hA
 obtain rfl:=hR;exact⟨bC,hce 0 _ rfl,hce 1 _ rfl⟩
theorem t8{α:Type}{R:World->Nat->List Value->α->Prop}{sz:Nat}{W:World}{B:Nat}{A:Option Addr}{n c k:Nat}{l:List α}(h:SlR R sz W B (.slice A n c) l)(hk:k<l.length):∃ b o,A=some ⟨b,o,none⟩:=by
 obtain⟨A',c',hA',_,_,bV⟩:=h
 cases hA'
 obtain⟨b',o',e,hA,_⟩:=bV k _ (aQ hk);exact⟨b',o',hA⟩
structure WithK(X:Nat)(w W:World)(v:Value)(oo:List Np.Span)(fr ti:Int)(b j:Nat)(xf xu:Int):Prop where
 below:Below X w W
 own:aK (X+1) W v oo
 box:SpBox W X fr ti
 at_:SpAt W b j xf xu
theorem WithK.keep{X:Nat}{w W W':World}{v:Value}{oo:List Np.Span}{fr ti:Int}{b j:Nat}{xf xu:Int}(h:WithK X w W v oo fr ti b j xf xu)(hb:Below W.heap.size W W')(bB:b<X):WithK X w W' v oo fr ti b j xf xu:=
 ⟨h.below.trans (hb.mono (Nat.le_of_lt h.box.lt)),h.own.keep hb,h.box.keep hb h.box.lt,h.at_.keep hb (Nat.lt_trans bB h.box.lt)⟩
theorem WithK.own'{X:Nat}{w W W':World}{v v':Value}{oo oo':List Np.Span}{fr ti:Int}{b j:Nat}{xf xu:Int}(h:WithK X w W v oo fr ti b j xf xu)(hb:Below (X+1) W W')(bB:b<X)(ho:aK (X+1) W' v' oo'):WithK X w W' v' oo' fr ti b j xf xu:=
 ⟨h.below.trans (hb.mono (Nat.le_succ _)),ho,h.box.keep hb (Nat.lt_succ_self _),h.at_.keep hb (by omega)⟩
theorem WithK.put0{X:Nat}{w W:World}{v:Value}{oo:List Np.Span}{fr ti:Int}{b j:Nat}{xf xu:Int}(h:WithK X w W v oo fr ti b j xf xu)(bB:b<X)(u:Int):WithK X w (W.setCell ⟨X,0,none⟩ (.int .i64 u)) v oo u ti b j xf xu:=
 ⟨h.below.setCell (bQ _) _,h.own.other (by simp) _,h.box.put0 u,(xQ _ _ _ _ (by simp <;> omega)).trans h.at_.c0,(xQ _ _ _ _ (by simp <;> omega)).trans h.at_.c1⟩
theorem WithK.put1{X:Nat}{w W:World}{v:Value}{oo:List Np.Span}{fr ti:Int}{b j:Nat}{xf xu:Int}(h:WithK X w W v oo fr ti b j xf xu)(bB:b<X)(u:Int):WithK X w (W.setCell ⟨X,1,none⟩ (.int .i64 u)) v oo fr u b j xf xu:=
 ⟨h.below.setCell (bQ _) _,h.own.other (by simp) _,h.box.put1 u,(xQ _ _ _ _ (by simp <;> omega)).trans h.at_.c0,(xQ _ _ _ _ (by simp <;> omega)).trans h.at_.c1⟩
theorem aIZ(v:Value)(l:List Np.Span)(s:Np.Span)(bM:l.length<=20000)(hs:s.frm<s.til)(w:World)(h:SlR cV 2 w w.heap.size v l) :
 Calls prog 65 #[v,.agg #[.int .i64 s.frm,.int .i64 s.til]] w (λe w'=>∃ v',e = .returned v'/\aK w.heap.size w' v' (Np.eH l s false)/\Below w.heap.size w w'):=by
 have HD:=jq h;obtain⟨A,c,rfl,bD,bL⟩:=al h;clear h;have jK:Hid ((Np.eH l s false).length<=20001):=jq (by have:=Ki l s;omega);obtain⟨sf,su⟩:=s;dsimp only at hs;have lZ:decide (su<=sf)=false:=tQ (by omega);go_enter func65,ntmps65;go_wp2_with fail;obtain⟨w1,aj⟩:∃ w1,w.alloc (.cells #[.int .i64 sf,.int .i64 su] 110)=w1:=⟨_,rfl⟩;obtain⟨X,hX⟩:∃ X,w.heap.size=X:=⟨_,rfl⟩;have HX:Hid (SpBox w1 X sf su):=jq (by rw[<-aj,<-hX];exact⟨by simp[go_sem],by simp[go_sem],by simp[go_sem],by simp[go_sem],by simp⟩);have bh:w1.heap.size=X+1:=by rw[<-aj,<-hX];simp
 have ay:Hid (Below X w w1):=jq (by rw[<-aj,<-hX];exact (vQ _ _).alloc (bQ _) _);rw[aj,hX];clear aj;rw[hX] at HD;go_loopw [5,6,7] (λvo vp i wr=>∃ (k:Nat) (o:List Np.Span) (put:Bool) (fr ti:Int),k<=l.length/\i = .int .i64 k/\vp = .bool put/\Hid (Below X w wr)/\Hid (aK (X+1) wr vo o)/\Hid (SpBox wr X fr ti)/\Hid (o++Np.eH (l.drop k) ⟨fr,ti⟩ put=Np.eH l ⟨sf,su⟩ false)) (λ_ _ i _=>l.length - (intOf i).toNat)
 case atStart=>exact⟨0,[],false,sf,su,jQ _,rfl,rfl,ay,jq (aK.nil _ _),HX,jq rfl⟩
 case round=>
  obtain⟨k,oo,put,fr,ti,hk,rfl,rfl,HB,HO,dw,HG⟩:=hrel;have ap:=HB.out.size;have gT:=dw.out.lt;have cx:X<=wr.heap.size:=Nat.le_of_lt gT;have ip:Hid (oo.length<=30000):=jq (by have:=jK.out;rw[<-HG.out,List.length_append] at this;omega);have x0:=dw.out.c0;have x1:=dw.out.c1;have xf0:=dw.out.f0;have xf1:=dw.out.f1;by_cases aa:k<l.length
  ·obtain⟨x,ab⟩:∃ x,l[k]?=some x:=⟨_,aQ aa⟩;have dz:=HD.out.keep dT HB.out;obtain⟨b,o,rfl⟩:=t8 dz aa;obtain⟨bC,hat⟩:=qr dz ab;clear dz;have h0:=hat.c0;have h1:=hat.c1;have HT:Hid (l.drop k=x::l.drop (k+1)):=jq (by
    obtain⟨hl,he⟩:=cQ.1 ab;rw[sQ hl,he])
   have cK:b<wr.heap.size:=by omega
   have bB:b≠X:=by omega
   obtain⟨xf,xu⟩:=x;dsimp only at h0 h1 hat;have HAT:=jq hat;clear ab hat;have bB:b<X:=bC;have HK:Hid (WithK X w wr u5 oo fr ti b (o+k * 2) xf xu):=jq ⟨HB.out,HO.out,dw.out,HAT.out⟩;clear HB HO dw HAT bC cK;by_cases mT:xu<fr
   ·have hd:decide (xu<fr)=true:=uQ mT;have mx:Hid ((oo ++ [⟨xf,xu⟩])++Np.eH (l.drop (k+1)) ⟨fr,ti⟩ put=Np.eH l ⟨sf,su⟩ false):=jq (by rw[<-HG.out,HT.out,Np.eH,Qb mT];simp);clear mT;go_wp2_with fail;go_quiet (fail);obtain⟨w2,ae⟩:∃ w2,wr.drewN nq=w2:=⟨_,rfl⟩;have cD:Hid (WithK X w w2 _ _ _ _ b (o+k * 2) xf xu):=jq (by rw[<-ae];exact HK.out.keep (below_drewN (vQ _ _) _) bB);rw[ae];clear ae x0 x1 xf0 xf1 gT h0 h1;have x0:=cD.out.box.c0;have x1:=cD.out.box.c1;have xf0:=cD.out.box.f0;have xf1:=cD.out.box.f1;have gT:=cD.out.box.lt;have h0:=cD.out.at_.c0;have h1:=cD.out.at_.c1;go_wp2_with (at_builtin;refine sA _ rfl _ _ rfl (X+1) _ (oo) rfl (cD.out.own.alloc _) w2.heap.size xf xu (by simp[go_sem]) (by simp[go_sem]) (by simp[go_sem]) (by have:=ip.out;omega) (by simp;omega) ?_;intro v5 w5 dp aC;have H5:=jq (And.intro dp aC);clear dp aC);have gV:=jq ((cD.out.keep ((vQ _ _).alloc (bQ _) _) bB).own' H5.out.2 bB H5.out.1);go_roundw
    case rel=>exact⟨k+1,oo ++ [⟨xf,xu⟩],put,fr,ti,by omega,by go_num,rfl,jq gV.out.below,jq gV.out.own,jq gV.out.box,mx⟩
    case measure=>simp[intOf] <;> omega
   ·have hd:decide (xu<fr)=false:=tQ mT;by_cases jt:ti<xf
    ·have iz:decide (ti<xf)=true:=uQ jt;have mx:Hid ((oo++(if put then [] else [⟨fr,ti⟩])) ++ [⟨xf,xu⟩]++Np.eH (l.drop (k+1)) ⟨fr,ti⟩ true=Np.eH l ⟨sf,su⟩ false):=jq (by rw[<-HG.out,HT.out,Np.eH,Qc mT,Qb jt];simp);clear mT jt
     cases put with
     | true=>
      go_wp2_with fail;go_quiet (fail);obtain⟨w2,ae⟩:∃ w2,wr.drewN nq=w2:=⟨_,rfl⟩;have cD:Hid (WithK X w w2 _ _ _ _ b (o+k * 2) xf xu):=jq (by rw[<-ae];exact HK.out.keep (below_drewN (vQ _ _) _) bB);rw[ae];clear ae x0 x1 xf0 xf1 gT h0 h1;have x0:=cD.out.box.c0;have x1:=cD.out.box.c1;have xf0:=cD.out.box.f0;have xf1:=cD.out.box.f1;have gT:=cD.out.box.lt;have h0:=cD.out.at_.c0;have h1:=cD.out.at_.c1;go_wp2_with fail;go_quiet (fail);obtain⟨w3,ae⟩:∃ w3,w2.drewN nq=w3:=⟨_,rfl⟩;have eY:Hid (WithK X w w3 _ _ _ _ b (o+k * 2) xf xu):=jq (by rw[<-ae];exact cD.out.keep (below_drewN (vQ _ _) _) bB);rw[ae];clear ae x0 x1 xf0 xf1 gT h0 h1;have x0:=eY.out.box.c0;have x1:=eY.out.box.c1;have xf0:=eY.out.box.f0;have xf1:=eY.out.box.f1;have gT:=eY.out.box.lt;have h0:=eY.out.at_.c0;have h1:=eY.out.at_.c1;go_wp2_with (at_builtin;refine sA _ rfl _ _ rfl (X+1) _ (oo) rfl (eY.out.own.alloc _) w3.heap.size xf xu (by simp[go_sem]) (by simp[go_sem]) (by simp[go_sem]) (by have:=ip.out;omega) (by simp;omega) ?_;intro v5 w5 dp aC;have H5:=jq (And.intro dp aC);clear dp aC);have gV:=jq ((eY.out.keep ((vQ _ _).alloc (bQ _) _) bB).own' H5.out.2 bB H5.out.1);go_roundw
      case rel=>exact⟨k+1,oo ++ [⟨xf,xu⟩],true,fr,ti,by omega,by go_num,rfl,jq gV.out.below,jq gV.out.own,jq gV.out.box,jq (by have:=mx.out;simpa using this)⟩
      case measure=>simp[intOf] <;> omega
     | false=>
      go_wp2_with fail;go_quiet (fail);obtain⟨w2,ae⟩:∃ w2,wr.drewN nq=w2:=⟨_,rfl⟩;have cD:Hid (WithK X w w2 _ _ _ _ b (o+k * 2) xf xu):=jq (by rw[<-ae];exact HK.out.keep (below_drewN (vQ _ _) _) bB);rw[ae];clear ae x0 x1 xf0 xf1 gT h0 h1;have x0:=cD.out.box.c0;have x1:=cD.out.box.c1;have xf0:=cD.out.box.f0;have xf1:=cD.out.box.f1;have gT:=cD.out.box.lt;have h0:=cD.out.at_.c0;have h1:=cD.out.at_.c1;go_wp2_with fail;go_quiet (fail);obtain⟨w3,ae⟩:∃ w3,w2.drewN nq=w3:=⟨_,rfl⟩;have eY:Hid (WithK X w w3 _ _ _ _ b (o+k * 2) xf xu):=jq (by rw[<-ae];exact cD.out.keep (below_drewN (vQ _ _) _) bB);rw[ae];clear ae x0 x1 xf0 xf1 gT h0 h1;have x0:=eY.out.box.c0;have x1:=eY.out.box.c1;have xf0:=eY.out.box.f0;have xf1:=eY.out.box.f1;have gT:=eY.out.box.lt;have h0:=eY.out.at_.c0;have h1:=eY.out.at_.c1;go_wp2_with (at_builtin;first | (refine sA _ rfl _ _ rfl (X+1) _ oo rfl (eY.out.own.alloc _) w3.heap.size fr ti (by simp[go_sem]) (by simp[go_sem]) (by simp[go_sem]) (by have:=ip.out;omega) (by simp;omega) ?_;intro v5 w5 dp aC;have gV:Hid (WithK X w w5 v5 (oo ++ [⟨fr,ti⟩]) fr ti b (o+k * 2) xf xu):=jq ((eY.out.keep ((vQ _ _).alloc (bQ _) _) bB).own' aC bB dp);clear dp aC x0 x1 xf0 xf1 gT h0 h1;have x0:=gV.out.box.c0;have x1:=gV.out.box.c1;have xf0:=gV.out.box.f0;have xf1:=gV.out.box.f1;have gT:=gV.out.box.lt;have h0:=gV.out.at_.c0;have h1:=gV.out.at_.c1) | (refine sA _ rfl _ _ rfl (X+1) _ (oo ++ [⟨fr,ti⟩]) rfl (gV.out.own.alloc _) w5.heap.size xf xu (by simp[go_sem]) (by simp[go_sem]) (by simp[go_sem]) (by have:=ip.out;simp;omega) (by simp;omega) ?_;intro v6 w6 kI aO;have H6:=jq (And.intro kI aO);clear kI aO));have Gm:=jq ((gV.out.keep ((vQ _ _).alloc (bQ _) _) bB).own' H6.out.2 bB H6.out.1);go_roundw
      case rel=>exact⟨k+1,oo ++ [⟨fr,ti⟩] ++ [⟨xf,xu⟩],true,fr,ti,by omega,by go_num,rfl,jq Gm.out.below,jq Gm.out.own,jq Gm.out.box,jq (by have:=mx.out;simpa using this)⟩
      case measure=>simp[intOf] <;> omega
    ·have iz:decide (ti<xf)=false:=tQ jt;have mx:Hid (oo++Np.eH (l.drop (k+1)) ⟨min fr xf,max ti xu⟩ put=Np.eH l ⟨sf,su⟩ false):=jq (by rw[<-HG.out,HT.out,Np.eH,Qc mT,Qc jt]);clear mT jt;go_wp2_with fail;go_quiet (fail);obtain⟨w2,ae⟩:∃ w2,wr.drewN nq=w2:=⟨_,rfl⟩;have cD:Hid (WithK X w w2 _ _ _ _ b (o+k * 2) xf xu):=jq (by rw[<-ae];exact HK.out.keep (below_drewN (vQ _ _) _) bB);rw[ae];clear ae x0 x1 xf0 xf1 gT h0 h1;have x0:=cD.out.box.c0;have x1:=cD.out.box.c1;have xf0:=cD.out.box.f0;have xf1:=cD.out.box.f1;have gT:=cD.out.box.lt;have h0:=cD.out.at_.c0;have h1:=cD.out.at_.c1;go_wp2_with fail;go_quiet (fail);obtain⟨w3,ae⟩:∃ w3,w2.drewN nq=w3:=⟨_,rfl⟩;have eY:Hid (WithK X w w3 _ _ _ _ b (o+k * 2) xf xu):=jq (by rw[<-ae];exact cD.out.keep (below_drewN (vQ _ _) _) bB);rw[ae];clear ae x0 x1 xf0 xf1 gT h0 h1;have x0:=eY.out.box.c0;have x1:=eY.out.box.c1;have xf0:=eY.out.box.f0;have xf1:=eY.out.box.f1;have gT:=eY.out.box.lt;have h0:=eY.out.at_.c0;have h1:=eY.out.at_.c1;go_wp2_with fail;go_region;obtain⟨w4,ae⟩:∃ w4,(w3.setCell ⟨X,0,none⟩ (.int .i64 (min fr xf))).drew=w4:=⟨_,rfl⟩;have pE:Hid (WithK X w w4 _ _ _ _ b (o+k * 2) xf xu):=jq (by rw[<-ae];exact (eY.out.put0 bB _).keep (vQ _ _).drew bB);rw[ae];clear ae x0 x1 xf0 xf1 gT h0 h1;have x0:=pE.out.box.c0;have x1:=pE.out.box.c1;have xf0:=pE.out.box.f0;have xf1:=pE.out.box.f1;have gT:=pE.out.box.lt;have h0:=pE.out.at_.c0;have h1:=pE.out.at_.c1;go_wp2_with fail;go_region;obtain⟨w5,ae⟩:∃ w5,(w4.setCell ⟨X,1,none⟩ (.int .i64 (max ti xu))).drew=w5:=⟨_,rfl⟩;have gV:Hid (WithK X w w5 _ _ _ _ b (o+k * 2) xf xu):=jq (by rw[<-ae];exact (pE.out.put1 bB _).keep (vQ _ _).drew bB);rw[ae];clear ae;go_wp2_with fail;go_roundw
     case rel=>exact⟨k+1,oo,put,_,_,by omega,by go_num,rfl,jq gV.out.below,jq gV.out.own,jq gV.out.box,mx⟩
     case measure=>simp[intOf] <;> omega
  ·have HE:Hid (l.drop k = []):=jq (List.drop_eq_nil_of_le (by omega))
   cases put with
   | true=>
    have HR:Hid (oo=Np.eH l ⟨sf,su⟩ false):=jq (by have:=HG.out;rw[HE.out] at this;simpa [Np.eH] using this);go_wp2_with fail;go_ret;refine⟨_,rfl,?_,?_⟩
    ·rw[hX];have:=HO.out.weak (Nat.le_succ X);rw[HR.out] at this;exact this
    ·rw[hX];exact HB.out
   | false=>
    have HR:Hid (oo ++ [⟨fr,ti⟩]=Np.eH l ⟨sf,su⟩ false):=jq (by have:=HG.out;rw[HE.out] at this;simpa [Np.eH] using this);go_wp2_with (at_builtin;refine sA _ rfl _ _ rfl (X+1) _ oo rfl (HO.out.alloc _) wr.heap.size fr ti (by simp[go_sem]) (by simp[go_sem]) (by simp[go_sem]) (by have:=ip.out;omega) (by simp;omega) ?_;intro v5 w5 dp aC;have H5:=jq (And.intro dp aC);clear dp aC);go_ret;refine⟨_,rfl,?_,?_⟩
    ·rw[hX];have:=H5.out.1.weak (Nat.le_succ X);rw[HR.out] at this;exact this
    ·rw[hX];exact (HB.out.alloc cx _).trans (H5.out.2.mono (Nat.le_succ X))
end
end Go.Proofs.YtfnopgdcaanaiaaGreatDoor
