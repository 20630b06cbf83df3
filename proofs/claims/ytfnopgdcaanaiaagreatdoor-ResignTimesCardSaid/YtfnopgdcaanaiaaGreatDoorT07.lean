/- Parts of the proof. No condition. -/
import Derived.Test.YtfnopgdcaanaiaaGreatDoorT02
import Derived.Test.YtfnopgdcaanaiaaGreatDoorT03
import Derived.Test.YtfnopgdcaanaiaaGreatDoorT04
import Derived.Test.YtfnopgdcaanaiaaGreatDoorT05
set_option linter.all false
set_option maxRecDepth 100000
set_option maxHeartbeats 8000000
namespace Go.Proofs.YtfnopgdcaanaiaaGreatDoor
open Go.Proofs.Tryz
namespace Np
structure Host where
 name:List UInt8
 addr:Int
 owner:Int
deriving DecidableEq
structure Copy where
 host:Int
 frm:Int
 til:Int
 zone:Zone
deriving DecidableEq
structure Placed where
 host:Int
 zone:Zone
deriving DecidableEq
structure Held where
 zone:List UInt8
 signed:Signed
 fresh:List Span
 spans:List Span
deriving DecidableEq
structure Hist where
 hosts:List Host
 copies:List Copy
 anchor:DSet
 hints:List Int
 drift:Int
 stop:Int
structure WorldP where
 hosts:List Host
 zones:List Placed
 anchor:DSet
 hints:List Int
noncomputable def yes(P:Prop):Bool:=@decide P (Classical.propDecidable P)
theorem dz{P:Prop}(h:P):yes P=true:=by unfold yes;exact @uQ _ (Classical.propDecidable P) h
theorem bP{P:Prop}(h:¬ P):yes P=false:=by unfold yes;exact @tQ _ (Classical.propDecidable P) h
theorem iz{P:Prop} : yes P=true↔P:=by unfold yes;exact @decide_eq_true_iff _ (Classical.propDecidable P)
theorem xM{P Q:Prop}(h:P↔Q):yes P=yes Q:=by rw[Bool.eq_iff_iff,iz,iz];exact h
structure HostOk(h:Host):Prop where
 name:aG h.name=true
 wild:eU h.name=false
 addr:1<=h.addr/\h.addr<=1000000
 owner:0<=h.owner/\h.owner<=31
structure VHosts(l:List Host):Prop where
 few:l.length<=64
 each:∀ h∈l,HostOk h
 addrs:(l.map (·.addr)).Nodup
structure VRoot(a:DSet)(hints:List Int):Prop where
 set:bO a=true
 type:a.type=6
 name:a.name = [46]
 few:1<=hints.length/\hints.length<=8
 each:∀ n∈hints,1<=n/\n<=1000000
structure CopyOk(h:Hist)(c:Copy):Prop where
 host:0<=c.host/\c.host<h.hosts.length
 times:0<=c.frm/\c.frm<c.til/\c.til<=h.stop
 zone:VZone c.zone
def pW(c d:Copy):Prop:=c.host=d.host/\c.zone.apex=d.zone.apex/\c.frm<d.til/\d.frm<c.til
structure VHist(h:Hist):Prop where
 stop:1<=h.stop/\h.stop<=10000000
 drift:0<=h.drift/\h.drift<=1000
 hosts:VHosts h.hosts
 root:VRoot h.anchor h.hints
 each:∀ c∈h.copies,CopyOk h c
 apart:h.copies.Pairwise λc d=>¬ pW c d
structure VWorld(w:WorldP):Prop where
 hosts:VHosts w.hosts
 root:VRoot w.anchor w.hints
 each:∀ p∈w.zones,(0<=p.host/\p.host<w.hosts.length)/\VZone p.zone
 apart:w.zones.Pairwise λp q=>¬ (p.host=q.host/\p.zone.apex=q.zone.apex)
def fO(l:List Span):List Span:=(l.mergeSort λa b=>decide (a.frm<=b.frm)).foldl eC []
theorem Kt{l m:List Span}(h:l.Perm m)(t:Int):inS l t↔inS m t:=
 ⟨λ⟨s,hs,k⟩=>⟨s,h.mem_iff.1 hs,k⟩,λ⟨s,hs,k⟩=>⟨s,h.mem_iff.2 hs,k⟩⟩
theorem Ir{l:List Span}(hf:∀ s∈l,s.frm<s.til)(hs:l.Pairwise λa b=>a.frm<=b.frm):ApartS (l.foldl eC [])/\∀ t,inS (l.foldl eC []) t↔inS l t:=by
 obtain⟨h1,h2⟩:=L4 l [] ApartS.nil hf hs (λp hp=>by cases hp);exact⟨h1,λt=>(h2 t).trans ⟨λh=>h.elim (λh=>absurd h (gJ t)) id,.inr⟩⟩
theorem LM(l:List Span):(l.mergeSort λa b=>decide (a.frm<=b.frm)).Perm l:=List.mergeSort_perm _ _
theorem Xf(l:List Span):(l.mergeSort λa b=>decide (a.frm<=b.frm)).Pairwise λa b=>a.frm<=b.frm:=by
 have:=List.pairwise_mergeSort (le:=λa b:Span=>decide (a.frm<=b.frm)) (λx y z h1 h2=>by simp at *;omega) (λx y=>by simp;omega) l
 exact this.imp λh=>by simpa using h
theorem xl{l:List Span}(hf:∀ s∈l,s.frm<s.til):ApartS (fO l)/\∀ t,inS (fO l) t↔inS l t:=by
 obtain⟨h1,h2⟩:=Ir (λs hs=>hf s ((LM l).mem_iff.1 hs)) (Xf l);exact⟨h1,λt=>(h2 t).trans (Kt (LM l) t)⟩
theorem KN{l m:List Span}(hf:∀ s∈l,s.frm<s.til)(hm:ApartS m)(ht:∀ t,inS m t↔inS l t):m=fO l:=by
 obtain⟨h1,h2⟩:=xl hf;exact C3 _ _ hm h1 λt=>(ht t).trans (h2 t).symm
theorem Vv{l m:List Span}(hf:∀ s∈l,s.frm<s.til)(hp:m.Perm l)(hs:m.Pairwise λa b=>a.frm<=b.frm):m.foldl eC []=fO l:=by
 obtain⟨h1,h2⟩:=Ir (λs hs=>hf s (hp.mem_iff.1 hs)) hs;exact KN hf h1 λt=>(h2 t).trans (Kt hp t)
theorem Vu{l m:List Span}(hl:∀ s∈l,s.frm<s.til)(hm:∀ s∈m,s.frm<s.til)(h:∀ t,inS l t↔inS m t):fO l=fO m:=by
 obtain⟨h1,h2⟩:=xl hl;exact KN hm h1 λt=>(h2 t).trans (h t)
def hU(c:Copy):Span:=⟨c.frm,c.til⟩
def qA(l:List Copy)(zone:List UInt8):List Copy:=l.filter λc=>c.zone.apex == zone
def kZ(c:Copy):List (Span×Signed):=c.zone.sets.map λs=>(hU c,s)
def ci(l:List Copy)(zone:List UInt8):List (Span×Signed):=(qA l zone).flatMap kZ
def eB(ps:List (Span×Signed))(s:Signed):List Span:=(ps.filter λp=>decide (p.2=s)).map (·.1)
def pg(f:List Span->List Span)(zone:List UInt8)(ps:List (Span×Signed)):List Held:=(bZ (ps.map (·.2))).map λs=>⟨zone,s,f (eB ps s),[]⟩
theorem Bz(ps:List (Span×Signed))(p:Span×Signed)(s:Signed):eB (ps ++ [p]) s=if p.2=s then eB ps s ++ [p.1] else eB ps s:=by
 unfold eB;rw[List.filter_append];by_cases h:p.2=s
 ·simp[h]
 ·simp[h]
theorem XJ{ps:List (Span×Signed)}{s:Signed}(h:s∉ps.map (·.2)):eB ps s = []:=by
 unfold eB;rw[List.filter_eq_nil_iff.2 (λp hp=>?_)];rfl;simp only[Qa];rintro rfl;exact h (List.mem_map.2 ⟨p,hp,rfl⟩)
theorem St(f:List Span->List Span)(zone:List UInt8)(ps:List (Span×Signed)):(pg f zone ps).length=(bZ (ps.map (·.2))).length:=List.length_map _
def pub(l:List Copy)(zone:List UInt8):List Held:=pg fO zone (ci l zone)
def apexes(l:List Copy):List (List UInt8):=pR (bZ (l.map (·.zone.apex)))
theorem ro{l:List Copy}{zone:List UInt8}{p:Span×Signed} : p∈ci l zone↔∃ c∈l,c.zone.apex=zone/\p.2∈c.zone.sets/\p.1=hU c:=by
 unfold ci qA kZ;simp only[List.mem_flatMap,List.mem_filter,List.mem_map,beq_iff_eq];constructor
 ·rintro⟨c,⟨h1,h2⟩,s,hs,rfl⟩;exact⟨c,h1,h2,hs,rfl⟩
 ·rintro⟨c,h1,h2,h3,h4⟩;exact⟨c,⟨h1,h2⟩,p.2,h3,by rw[<-h4]⟩
theorem Ba{ps:List (Span×Signed)}{s:Signed}{x:Span} : x∈eB ps s↔(x,s)∈ps:=by
 unfold eB;simp only[List.mem_map,List.mem_filter,Qa];constructor
 ·rintro⟨p,⟨h1,rfl⟩,rfl⟩;exact h1
 ·intro h;exact⟨(x,s),⟨h,rfl⟩,rfl⟩
def mc(l:List Copy):Prop:=∀ c∈l,c.frm<c.til
theorem VHist.full{h:Hist}(v:VHist h):mc h.copies:=λc hc=>(v.each c hc).times.2.1
theorem BA{l:List Copy}(hl:mc l){zone:List UInt8}{s:Signed} : ∀ x∈eB (ci l zone) s,x.frm<x.til:=λx hx=>by
 obtain⟨c,hc,_,_,h4⟩:=ro.1 (Ba.1 hx);have h4:x=hU c:=h4;rw[h4];exact hl c hc
theorem EN{l:List Copy}{zone:List UInt8}{s:Signed}{t:Int} : inS (eB (ci l zone) s) t↔∃ c∈l,c.zone.apex=zone/\s∈c.zone.sets/\c.frm<=t/\t<c.til:=by
 constructor
 ·rintro⟨x,hx,h1,h2⟩;obtain⟨c,hc,h3,h4,h5⟩:=ro.1 (Ba.1 hx);have h5:x=hU c:=h5;subst h5;exact⟨c,hc,h3,h4,h1,h2⟩
 ·rintro⟨c,hc,h3,h4,h1,h2⟩;exact⟨hU c,Ba.2 (ro.2 ⟨c,hc,h3,h4,rfl⟩),h1,h2⟩
theorem KG{l:List Copy}{zone:List UInt8}{s:Signed} : s∈bZ ((ci l zone).map (·.2))↔∃ c∈l,c.zone.apex=zone/\s∈c.zone.sets:=by
 rw[xi,List.mem_map];constructor
 ·rintro⟨p,hp,rfl⟩;obtain⟨c,h1,h2,h3,_⟩:=ro.1 hp;exact⟨c,h1,h2,h3⟩
 ·rintro⟨c,h1,h2,h3⟩;exact⟨(hU c,s),ro.2 ⟨c,h1,h2,h3,rfl⟩,rfl⟩
theorem rp{l:List Copy}(hl:mc l){zone:List UInt8}{x:Held}(hx:x∈pub l zone):x.zone=zone/\x.spans = []/\ApartS x.fresh/\(∃ c∈l,c.zone.apex=zone/\x.signed∈c.zone.sets)/\∀ t,inS x.fresh t↔∃ c∈l,c.zone.apex=zone/\x.signed∈c.zone.sets/\c.frm<=t/\t<c.til:=by
 unfold pub pg at hx;obtain⟨s,hs,rfl⟩:=List.mem_map.1 hx;obtain⟨h1,h2⟩:=xl (BA hl (zone:=zone) (s:=s));exact⟨rfl,rfl,h1,KG.1 hs,λt=>(h2 t).trans EN⟩
theorem Wt{l:List Copy}{zone:List UInt8}{s:Signed}(h:∃ c∈l,c.zone.apex=zone/\s∈c.zone.sets):∃ x∈pub l zone,x.signed=s:=
 ⟨_,List.mem_map.2 ⟨s,KG.2 h,rfl⟩,rfl⟩
end Np
section
open Go.RowKit Go.Sort Go.Shelf
section
variable {α:Type} [Inhabited α]
theorem Dh(enc:α->List Value)(k:Nat)(hk:∀ x,(enc x).length=k)(h0:0<k)(xs:List α):(flatK enc k xs.toArray).toList=(xs.map enc).flatten:=by
 have hlen:(xs.map enc).flatten.length=xs.length * k:=by
  clear h0
  induction xs with
  | nil=>simp
  | cons y ys ih=>rw[List.map_cons,List.flatten_cons,List.length_append,ih,hk,List.length_cons,Nat.succ_mul];omega
 apply List.ext_getElem?;intro t;by_cases ht:t<xs.length * k
 ·have h1:t / k<xs.length:=(Nat.div_lt_iff_lt_mul h0).2 ht;have h2:t % k<k:=Nat.mod_lt _ h0;have hr:(xs.map enc)[t / k]?=some (enc xs[t / k]):=by simp[h1]
  have hu:(enc xs[t / k])[t % k]?=some ((enc xs[t / k])[t % k]'(by rw[hk];exact h2)):=aQ _;have h3:=uL (xs.map enc) (t / k) (t % k) _ _ (by intro r hr;obtain⟨x,_,rfl⟩:=List.mem_map.1 hr;exact hk x) hr hu;rw[show t / k * k+t % k=t by rw[Nat.mul_comm];exact Nat.div_add_mod t k] at h3;rw[h3];have hs:t<(flatK enc k xs.toArray).size:=by simpa using ht
  rw[Array.getElem?_toList,pQ hs];congr 1;have h4:=get_flatK enc k xs.toArray t (by simpa using ht);rw[getElem!_pos (flatK enc k xs.toArray) t hs] at h4;rw[h4];rw[getElem!_pos xs.toArray (t / k) (by simpa using h1)];rw[getElem!_pos _ (t % k) (by rw[hk];exact h2)];simp
 ·rw[List.getElem?_eq_none (by simp;omega),List.getElem?_eq_none (by rw[hlen];omega)]
theorem Tk(enc:α->List Value)(k:Nat)(hk:∀ x,(enc x).length=k)(h0:0<k){w:World}{g:Nat}{cur:Array Value}{e:TypeId}{xs:List α}(hb:w.heap[g]?=some (.cells cur e (0,0)))(ht:cur.toList.take (xs.length * k)=(xs.map enc).flatten):HoldsK enc k w g 0 xs.toArray:=by
 intro j hj;have hj':j<xs.length * k:=by simpa using hj
 refine⟨?_,by simp[World.frozen?,hb]⟩;have h1:(cur.toList.take (xs.length * k))[j]?=(flatK enc k xs.toArray).toList[j]?:=by rw[ht,Dh enc k hk h0]
 rw[List.getElem?_take_of_lt hj'] at h1;simp only[World.cell?,hb,Nat.zero_add,Option.isSome_none,Bool.false_eq_true,if_false];rw[<-Array.getElem?_toList,h1];have hs:j<(flatK enc k xs.toArray).size:=by simpa using hj'
 rw[Array.getElem?_toList,pQ hs,getElem!_pos _ j hs];rfl
theorem Sq(enc:α->List Value)(k:Nat){w:World}{g n:Nat}{os:Array Obj}{cur:Array Value}{e:TypeId}{fr:Nat×Nat}(d:Array α)(hb:w.heap[g]?=some (.cells cur e fr)) :
 (sortWorldK enc k w g 0 n d os).heap[g]?=some (.cells (putCells id 0 (flatK enc k d) cur) e fr):=by
 have hl:g<w.heap.size:=(eQ.1 hb).1;unfold sortWorldK putRowK;rw[heap_grow_old _ _ (by simpa [putRow,mapBlock,Sort.ahead] using hl)];simp[putRow,mapBlock,Sort.ahead,Array.getElem?_modify,hb,onCells]
theorem Rp(enc:α->List Value)(k:Nat){w:World}{g n:Nat}{os:Array Obj}(d:Array α):w.grownBy (sortWorldK enc k w g 0 n d os) (some g):=by
 unfold sortWorldK putRowK;refine⟨rfl,rfl,rfl,by simp,λq hq hne=>?_⟩;rw[heap_grow_old _ _ (by simpa using hq)]
 have:g≠q:=λe=>hne (by rw[e])
 simp[putRow,mapBlock,Sort.ahead,Array.getElem?_modify,this]
theorem VP(enc:α->List Value)(k:Nat)(hk:∀ x,(enc x).length=k)(h0:0<k){w:World}{base g cap n:Nat}{e:TypeId}{os:Array Obj}{cur:Array Value}{xs ys:List α}(hl:ys.length=xs.length)(bL:base<=g)(hb:w.heap[g]?=some (.cells cur e (0,0)))
 (h1:xs.length<=cap) (h2:cap<=maxLen) (h3:cur.size=cap * k) :
 (sortWorldK enc k w g 0 n ys.toArray os).ownsRow base e k (.slice (some ⟨g,0,none⟩) xs.length cap) xs.length (ys.map enc).flatten:=by
 have sG:(ys.map enc).flatten.length=ys.length * k:=by
  rw[<-Dh enc k hk h0 ys];simp
 have fJ:ys.length * k<=cur.size:=by rw[h3];exact Nat.mul_le_mul_right k (by omega)
 refine⟨by rw[sG,hl],.inr ⟨g,cap,_,rfl,bL,Sq enc k _ hb,h1,h2,by simp[putCells,h3],?_⟩⟩;rw[<-hl];apply List.ext_getElem?;intro j;by_cases hj:j<ys.length * k
 ·rw[List.getElem?_take_of_lt hj,Array.getElem?_toList,<-Dh enc k hk h0 ys];have hs:j<(flatK enc k ys.toArray).size:=by simpa using hj
  rw[Array.getElem?_toList,pQ hs];have vD:j<cur.size:=by omega
  simp[putCells,hj,vD]
 ·rw[List.getElem?_take_eq_none (by omega),List.getElem?_eq_none (by rw[sG];omega)]
end
def dU(s:Np.Span):List Value:=[.int .i64 s.frm,.int .i64 s.til]
def av(base:Nat)(w:World)(v:Value)(ps:List Np.Span):Prop:=w.ownsRow base 110 2 v ps.length (ps.map dU).flatten
theorem av.form{base:Nat}{w:World}{v:Value}{ps:List Np.Span}(h:av base w v ps):∃ A c,v = .slice A ps.length c:=jr h
theorem av.alloc{base:Nat}{w:World}{v:Value}{ps:List Np.Span}(h:av base w v ps)(o:Obj):av base (w.alloc o) v ps:=World.ownsRow.alloc h o
theorem av.keep{base:Nat}{w w':World}{v:Value}{ps:List Np.Span}(h:av base w v ps)(hb:Below w.heap.size w w'):av base w' v ps:=bY h (λg hg=>hb.block g (h.lt g hg).2)
theorem av.nil(base:Nat)(w:World):av base w (.slice none 0 0) []:=⟨by simp,.inl ⟨rfl,rfl⟩⟩
theorem av.slr{base:Nat}{w:World}{v:Value}{ps:List Np.Span}(h:av base w v ps)(hl:ps.length<=140737488355328):SlR cm 2 w w.heap.size v ps:=by
 refine Bu (sz:=2) (e:=110) (base:=base) dU (λ_ _=>rfl) ?_ hl (λx hx=>rfl)
 have:w.ownsRow base 110 2 v ps.length (ps.map dU).flatten:=h
 rwa [<-List.flatMap_def] at this
theorem Tryz.infoSpan:(prog.info? 110).map (λi=>(i.zero,i.size,i.bytes))=some (some (.agg #[.int .i64 0,.int .i64 0]),2,16):=by kernel_rfl
section
variable {ops:Array Oper} {rest:List Oper} {o:Oper} {a:Act} {Q:Exit->Act->World->Prop}
theorem BG(w:World)(fh:o.guard=none)(s x:Operand)(ho:o.op = .call { callee:=.builtin .append,args:=#[s,x],argTypes:=#[55,55] })
 (base:Nat) (v:Value) (ps:List Np.Span) (hs:a.eval s=v) (hown:av base w v ps) (blk:Nat) (f u:Int) (hx:a.eval x = .slice (some ⟨blk,0,none⟩) 1 1) (hc:w.cell? ⟨blk,0,none⟩=some (.int .i64 f)) (aT:w.cell? ⟨blk,1,none⟩=some (.int .i64 u)) (hlen:ps.length<=100000) (bL:base<=w.heap.size)
 (h:∀ v' w',av base w' v' (ps ++ [⟨f,u⟩])->Below base w w'->wpList prog ops Q rest (a.put o.dst v') w'):wpList prog ops Q (o::rest) a w:=by
 obtain⟨i0,hi,bd,aK,aC⟩:=info_parts Tryz.infoSpan;refine wpList_append_own_at w fh s x 55 ho base 110 i0 (.agg #[.int .i64 0,.int .i64 0]) 2 16 underlying55 hi bd aK aC rfl (by decide) v ps.length (ps.map dU).flatten hs hown ⟨blk,0,none⟩ 1 1 [.int .i64 f,.int .i64 u] hx rfl ?_ (by simp[Value.oneCell']) (by unfold maxLen;omega) (by omega) bL ?_
 ·intro j y hj
  match j,hj with
  | 0,hj=>simp at hj;subst hj;simpa [Addr.add] using hc
  | 1,hj=>simp at hj;subst hj;simpa [Addr.add] using aT
  | j+2,hj=>simp at hj
 ·intro v' w' ho' hg _ _;refine h v' w' ?_ ((vQ _ _).grown hg bL (λk hk=>(hown.lt k hk).1));have e:(ps ++ [(⟨f,u⟩:Np.Span)]).length=ps.length+1:=by simp
  unfold av;rw[e,List.map_append,List.flatten_append];exact ho'
end
theorem Q8(f u:Int)(w:World) :
 Calls prog 177 #[.agg #[.int .i64 f,.int .i64 u]] w (agQ w.heap.size w (.bool (decide (f<u)))):=by
 have HB:Hid (∀ o,Below w.heap.size w (w.alloc o)):=jq (λo=>(vQ _ w).alloc (bQ _) _);go_enter func177,ntmps177;go_wp2_with fail;go_ret;exact⟨rfl,HB.out _⟩
theorem W9(v:Value)(l:List Np.Span)(dG:l.length<=20000)(hf:∀ s∈l,s.frm<s.til)(w:World)(h:SlR cm 2 w w.heap.size v l) :
 Calls prog 176 #[v,.func (.func 177) #[] #[]] w λe w'=>∃ v',e = .returned v'/\av w.heap.size w' v' l/\Below w.heap.size w w':=by
 have HD:=jq h;have HF:=jq hf;obtain⟨A,c,rfl,aT,cu⟩:=ar h;clear h hf;have HE:=jq (enters_of func177 (by kernel_rfl) rfl);go_enter func176,ntmps176;go_wp2_with fail;go_loopw [5,10] (λvo i wr=>∃ (k:Nat),k<=l.length/\i = .int .i64 k/\Hid (Below w.heap.size w wr)/\Hid (av w.heap.size wr vo (l.take k))) (λ_ i _=>l.length - (intOf i).toNat)
 case atStart=>exact⟨0,jQ _,rfl,jq (vQ _ _),jq (av.nil _ _)⟩
 case round=>
  obtain⟨k,hk,rfl,HB,HO⟩:=hrel;have ag:=HB.out.size;by_cases aa:k<l.length
  ·obtain⟨x,ac⟩:∃ x,l[k]?=some x:=⟨_,aQ aa⟩;obtain⟨A',c',hA',_,_,aL⟩:=HD.out.keep cI HB.out
   cases hA'
   obtain⟨b,o,e,rfl,bC,hlen,hce,hR⟩:=aL k _ ac;obtain rfl:=hR;have h0:wr.cell? ⟨b,o+k * 2,none⟩=some (.int .i64 x.frm):=hce 0 _ rfl;have h1:wr.cell? ⟨b,o+k * 2+1,none⟩=some (.int .i64 x.til):=hce 1 _ rfl;have hd:decide (x.frm<x.til)=true:=uQ (HF.out x (gQ ac));have HT:Hid (l.take (k+1)=l.take k ++ [x]):=jq (by
    obtain⟨hl,he⟩:=cQ.1 ac;rw[fQ hl,he])
   have HL:Hid ((l.take k).length<=100000):=jq (by rw[List.length_take];omega);obtain⟨f,u⟩:=x;have cg:b<wr.heap.size:=by omega
   clear aL hce ac;dsimp only at h0 h1 hd;have ca:Hid (∀ o,Below w.heap.size w (wr.alloc o)):=jq (λo=>HB.out.alloc HB.out.size _);go_wp2_with (fail);refine (Q8 f u _).mono ?_;rintro e w2 ⟨rfl,ab⟩;rw[hd];have ai:Hid (Below w.heap.size w w2):=jq ((ca.out _).trans (ab.mono (by simp;omega)));have bV:Hid (av w.heap.size w2 u5 (l.take k)):=jq ((HO.out.alloc _).keep ab);have c0:w2.cell? ⟨wr.heap.size,0,none⟩=some (.int .i64 f):=by rw[ab.cell (by simp)];simp[go_sem]
   have c1:w2.cell? ⟨wr.heap.size,1,none⟩=some (.int .i64 u):=by rw[ab.cell (by simp)];simp[go_sem]
   have aC:wr.heap.size<w2.heap.size:=by have:=ab.size;simp at this;omega
   clear ab;go_wp2_with (at_builtin;refine BG _ rfl _ _ rfl w.heap.size _ (l.take k) rfl (bV.out.alloc _) w2.heap.size f u (by simp[go_sem]) (by simp[go_sem]) (by simp[go_sem]) HL.out (by simp;omega) ?_;intro v5 w5 il aA;have H5:=jq (And.intro il aA);clear il aA);go_roundw
   case rel=>exact⟨k+1,by omega,by go_num,jq ((ai.out.alloc (by omega) _).trans H5.out.2),jq (by rw[HT.out];exact H5.out.1)⟩
   case measure=>simp[intOf] <;> omega
  ·have HE':Hid (l.take k=l):=jq (kQ (by omega));go_wp2_with fail;go_ret;exact⟨_,rfl,by have:=HO.out;rwa [HE'.out] at this,HB.out⟩
instance:Inhabited Np.Span:=⟨⟨0,0⟩⟩
theorem Vt(f u f' u':Int)(w:World) :
 Calls prog 178 #[.agg #[.int .i64 f,.int .i64 u],.agg #[.int .i64 f',.int .i64 u']] w λe w'=>e = .returned (.int .i64 (Np.cL f f'))/\∃ q os,w'=grow (w.drewN q) os:=by
 go_enter func178,ntmps178;go_wp2_with (go_at_call 123;refine (uH _ _ _).mono ?_;rintro e w' ⟨rfl,rfl⟩);go_ret;exact⟨rfl,0,_,by rw[alloc_eq_grow,alloc_eq_grow,grow_grow];rfl⟩
theorem AY(x y:Np.Span):ltOf (λx y:Np.Span=>Np.cL x.frm y.frm) x y=decide (x.frm<y.frm):=by
 unfold ltOf Np.cL;by_cases h1:x.frm<y.frm
 ·simp[h1]
 ·by_cases h2:y.frm<x.frm <;> simp[h1,h2]
theorem Xy:SWO (ltOf λx y:Np.Span=>Np.cL x.frm y.frm) where
 irrefl x:=by rw[AY];simp
 trans x y z h1 h2:=by rw[AY] at *;simp at *;omega
 ntrans x y z h1 h2:=by rw[AY] at *;simp at *;omega
theorem Xj{d d':Array Np.Span}(hp:PermIn 0 d.size d d')(hs:SortedIn (ltOf λx y:Np.Span=>Np.cL x.frm y.frm) 0 d.size d'):d'.toList.Perm d.toList/\d'.toList.Pairwise λa b=>a.frm<=b.frm:=by
 obtain⟨h1,_,h3⟩:=hp;refine⟨?_,?_⟩
 ·have e1:d'.extract 0 d.size=d':=by rw[<-h1];simp
  have e2:d.extract 0 d.size=d:=by simp
  rwa [e1,e2] at h3
 ·rw[List.pairwise_iff_getElem];intro i j hi hj ct
  have:=hs i j (jQ _) ct (by rw[<-h1];simpa using hj)
  rw[AY,getElem!_pos d' i (by simpa using hi),getElem!_pos d' j (by simpa using hj)] at this;simpa using this
theorem LO(fid:FuncId)(Sv:∀ (f u f' u':Int) (w:World),Calls prog fid #[.agg #[.int .i64 f,.int .i64 u],.agg #[.int .i64 f',.int .i64 u']] w λe w'=>e = .returned (.int .i64 (Np.cL f f'))/\∃ q os,w'=grow (w.drewN q) os)(eg:∀ args w,(callFunc fid args).run prog w = .ok (.enter fid args) w)(base:Nat)(v:Value)(xs:List Np.Span)(w:World)(hown:av base w v xs)(hl:xs.length<=100000) :
 Calls prog 121 #[v,.func (.func fid) #[] #[]] w λe w'=>e = .returned (.tuple #[])/\∃ ys:List Np.Span,ys.Perm xs/\ys.Pairwise (λa b=>a.frm<=b.frm)/\av base w' v ys/\w.grownBy w' v.ownBlock:=by
 have im:w.ownsRow base 110 2 v xs.length (xs.map dU).flatten:=hown;rcases im.2 with ⟨rfl,h0⟩ | ⟨g,cap,cur,rfl,bL,hb,h1,h2,h3,h4⟩
 ·have:xs = []:=rQ h0
  subst this;refine (AnyF.slices_SortFunc_none Tryz.sortSpan none 0 _ w).mono ?_;intro e w' hh;obtain⟨rfl,rfl⟩:=hh;exact⟨rfl,[],List.Perm.refl _,List.Pairwise.nil,hown,⟨rfl,rfl,rfl,bQ _,λ_ _ _=>rfl⟩⟩
 have aE:∀ w,(isAgg 110).run prog w = .ok true w:=λw=>by kernel_rfl
 have zE:∀ w,(Go.sizeOf 110).run prog w = .ok 2 w:=λw=>by kernel_rfl
 have hH:=Tk dU 2 (λ_=>rfl) (by omega) hb h4;have vq:CmpLays prog fid #[] dU 2 (λx y:Np.Span=>Np.cL x.frm y.frm) g 0 xs.toArray.size w:=λm os dk _ x y=>Sv x.frm x.til y.frm y.til _;have zV:=AnyQ.slices_SortFunc Tryz.sortSpan 2 aE zE dU (λ_=>rfl) (λx u hu=>by simp only[dU,List.mem_cons,Qh,or_false] at hu;rcases hu with rfl | rfl <;> rfl) (λx y:Np.Span=>Np.cL x.frm y.frm) Xy fid #[] g 0 cap xs.toArray w eg vq hH (eQ.1 hb).1 (by simp;omega);refine zV.mono λe w' ⟨he,d',n,os,hp,hs,hw⟩=>⟨he,d'.toList,?_⟩;obtain⟨p1,p2⟩:=Xj hp hs;have hlen:d'.toList.length=xs.length:=by simpa using p1.length_eq
 refine⟨by simpa using p1,p2,?_,?_⟩
 ·subst hw;unfold av;rw[hlen]
  have:=VP dU 2 (λ_=>rfl) (by omega) (n:=n) (os:=os) hlen bL hb h1 h2 h3
  simpa using this
 ·subst hw;exact Rp dU 2 _
theorem Xh(base:Nat)(v:Value)(xs:List Np.Span)(w:World)(hown:av base w v xs)(hl:xs.length<=100000) :
 Calls prog 121 #[v,.func (.func 178) #[] #[]] w λe w'=>e = .returned (.tuple #[])/\∃ ys:List Np.Span,ys.Perm xs/\ys.Pairwise (λa b=>a.frm<=b.frm)/\av base w' v ys/\w.grownBy w' v.ownBlock:=
 LO _ Vt (enters_of func178 (by kernel_rfl) rfl) base v xs w hown hl
theorem L6:∀ (l o:List Np.Span),(l.foldl Np.eC o).length<=o.length+l.length:=by
 intro l
 induction l with
 | nil=>intro o;simp
 | cons s l ih=>
  intro o;have h1:(Np.eC o s).length<=o.length+1:=by
   rcases List.eq_nil_or_concat o with rfl | ⟨q,p,rfl⟩
   ·simp[Np.L5]
   ·rw[List.concat_eq_append,Np.Fi];split <;> simp
  have:=ih (Np.eC o s)
  rw[List.foldl_cons,List.length_cons];omega
theorem QZ(q:List Np.Span)(p:Np.Span)(u:Int):(((q ++ [p]).map dU).flatten).set (q.length * 2+1) (.int .i64 u)=((q ++ [(⟨p.frm,u⟩:Np.Span)]).map dU).flatten:=by
 have hl:((q.map dU).flatten).length=q.length * 2:=by rw[<-List.flatMap_def];induction q with | nil=>rfl | cons a q ih=>simp[List.flatMap_cons,ih,dU];omega
 rw[List.map_append,List.flatten_append,List.map_append,List.flatten_append,List.set_append_right _ _ (by rw[hl];omega),hl];congr 1;rw[show q.length * 2+1 - q.length * 2=1 by omega];rfl
theorem QY(q:List Np.Span)(p:Np.Span)(j:Nat):(((q ++ [p]).map dU).flatten)[q.length * 2+j]?=(dU p)[j]?:=by
 have hl:((q.map dU).flatten).length=q.length * 2:=by rw[<-List.flatMap_def];induction q with | nil=>rfl | cons a q ih=>simp[List.flatMap_cons,ih,dU];omega
 rw[List.map_append,List.flatten_append,oQ (by rw[hl];omega),hl];simp
theorem XW(v:Value)(l:List Np.Span)(dG:l.length<=20000)(w:World)(h:SlR cm 2 w w.heap.size v l) :
 Calls prog 179 #[v] w (λe w'=>∃ v',e = .returned v'/\av w.heap.size w' v' (l.foldl Np.eC [])/\Below w.heap.size w w'):=by
 have HD:=jq h;obtain⟨A,c,rfl,aT,cu⟩:=ar h;clear h;have HN:Hid (∀ k,((l.take k).foldl Np.eC []).length<=k):=jq (λk=>yQ (L6 _ _) (by simp;omega));go_enter func179,ntmps179;go_wp2_with fail;go_loopw [3,9] (λvo i wr=>∃ (k:Nat),k<=l.length/\i = .int .i64 k/\Hid (Below w.heap.size w wr)/\Hid (av w.heap.size wr vo ((l.take k).foldl Np.eC []))) (λ_ i _=>l.length - (intOf i).toNat)
 case atStart=>exact⟨0,jQ _,rfl,jq (vQ _ _),jq (av.nil _ _)⟩
 case round=>
  obtain⟨k,hk,rfl,HB,HO⟩:=hrel;have ag:=HB.out.size;by_cases aa:k<l.length
  ·obtain⟨x,ac⟩:∃ x,l[k]?=some x:=⟨_,aQ aa⟩;obtain⟨A',c',hA',_,_,aL⟩:=HD.out.keep cI HB.out
   cases hA'
   obtain⟨b,o,e,rfl,bC,hlen,hce,hR⟩:=aL k _ ac;obtain rfl:=hR;have h0:wr.cell? ⟨b,o+k * 2,none⟩=some (.int .i64 x.frm):=hce 0 _ rfl;have h1:wr.cell? ⟨b,o+k * 2+1,none⟩=some (.int .i64 x.til):=hce 1 _ rfl;have HT:Hid ((l.take (k+1)).foldl Np.eC []=Np.eC ((l.take k).foldl Np.eC []) x):=jq (by
    obtain⟨hl,he⟩:=cQ.1 ac;rw[fQ hl,he,List.foldl_append];rfl)
   have cg:b<wr.heap.size:=by omega
   have ca:Hid (∀ o,Below w.heap.size w (wr.alloc o)):=jq (λo=>HB.out.alloc HB.out.size _);have sS:=HN.out k;obtain⟨fr,ti⟩:=x;clear aL hce ac;dsimp only at h0 h1;obtain⟨ol,nY⟩:=abY ((l.take k).foldl Np.eC []);rw[nY] at HO HT sS;clear nY;rcases List.eq_nil_or_concat ol with rfl | ⟨q,p,rfl⟩
   ·obtain⟨A0,c0,rfl⟩:=av.form HO.out;go_wp2_with fail;go_quiet (fail);obtain⟨w2,az⟩:=abY ((wr.alloc (.cells #[.int .i64 fr,.int .i64 ti] 110)).drewN nq);have aC:w2.heap.size=wr.heap.size+1:=by rw[<-az];simp
    have c0:w2.cell? ⟨wr.heap.size,0,none⟩=some (.int .i64 fr):=by rw[<-az];simp[go_sem]
    have c1:w2.cell? ⟨wr.heap.size,1,none⟩=some (.int .i64 ti):=by rw[<-az];simp[go_sem]
    have fW:Below wr.heap.size wr w2:=by rw[<-az];exact below_drewN ((vQ _ _).alloc (bQ _) _) _
    have ai:Hid (Below w.heap.size w w2):=jq (HB.out.trans (fW.mono ag));have bV:Hid (av w.heap.size w2 _ []):=jq (HO.out.keep fW);rw[az];clear az fW;go_wp2_with (at_builtin;refine BG _ rfl _ _ rfl w.heap.size _ [] rfl (bV.out.alloc _) w2.heap.size fr ti (by simp[go_sem]) (by simp[go_sem]) (by simp[go_sem]) (by simp) (by simp;omega) ?_;intro v5 w5 il aA;have H5:=jq (And.intro il aA);clear il aA);go_roundw
    case rel=>exact⟨k+1,by omega,by go_num,jq ((ai.out.alloc (by omega) _).trans H5.out.2),jq (by rw[HT.out];exact H5.out.1)⟩
    case measure=>simp[intOf] <;> omega
   ·rw[List.concat_eq_append] at HO HT sS;have hown:wr.ownsRow w.heap.size 110 2 u3 (q ++ [p]).length ((q ++ [p]).map dU).flatten:=HO.out;have F0:=jq (QY q p);have NS:=jq (QZ q p);have Oq:Hid ((q ++ [p]).length<=100000):=jq (by omega);have qE:(q ++ [p]).length=q.length+1:=by simp
    have hqk:q.length+1<=k:=by rw[qE] at sS;exact sS
    clear sS;rcases hown.2 with ⟨_,zr⟩ | ⟨g,cap,cur,rfl,bL,hb,co,dj,_,_⟩
    ·rw[qE] at zr;omega
    have iY:=jq hown;have lg:g<wr.heap.size:=(eQ.1 hb).1;clear hb hown;obtain⟨M,hM⟩:=abY ((q ++ [p]).length);obtain⟨m,hm⟩:=abY q.length;have g0:wr.cell? ⟨g,m * 2,none⟩=some (.int .i64 p.frm):=by
     rw[<-hm,iY.out.cellAt _ (by rw[qE];omega)]
     have:=F0.out 0
     rwa [Nat.add_zero] at this
    have g1:wr.cell? ⟨g,m * 2+1,none⟩=some (.int .i64 p.til):=by
     rw[<-hm,iY.out.cellAt _ (by rw[qE];omega)];exact F0.out 1
    have gf:wr.frozen? ⟨g,m * 2+1,none⟩=false:=iY.out.frozenAt _;rw[qE,hm] at hM;have hq:IntKind.i64.wrap ((M:Int) - 1)=(m:Int):=by rw[show (M:Int) - 1=m by omega];simp[IntKind.wrap,IntKind.bits,IntKind.signed];omega
    have Zo:decide (0<(M:Int))=true:=adQ;have Zp:decide (0<M)=true:=adQ;have Z7:m<M:=by omega
    have Z8:(m:Int)<(M:Int):=by omega
    have nU:(0:Int)<=(m:Int):=by omega
    have HM:Hid ((q ++ [p]).length=M):=jq (by rw[qE,hm,hM]);rw[HM.out] at co;have Gn:=jq hM;have HQ:=jq hm;have GV:=jq (Np.Fi q p ⟨fr,ti⟩);clear hM hm qE;rw[HM.out];by_cases fJ:fr<=p.til
    ·have hd:decide (fr<=p.til)=true:=uQ fJ;have gS:Hid ((l.take (k+1)).foldl Np.eC []=q ++ [⟨p.frm,max p.til ti⟩]):=jq (by rw[HT.out,GV.out,Qb fJ]);clear fJ;go_wp2_with fail;go_quiet (fail);obtain⟨w2,az⟩:=abY ((wr.alloc (.cells #[.int .i64 fr,.int .i64 ti] 110)).drewN nq);have aC:w2.heap.size=wr.heap.size+1:=by rw[<-az];simp
     have c0:w2.cell? ⟨wr.heap.size,0,none⟩=some (.int .i64 fr):=by rw[<-az];simp[go_sem]
     have c1:w2.cell? ⟨wr.heap.size,1,none⟩=some (.int .i64 ti):=by rw[<-az];simp[go_sem]
     have fW:Below wr.heap.size wr w2:=by rw[<-az];exact below_drewN ((vQ _ _).alloc (bQ _) _) _
     have ai:Hid (Below w.heap.size w w2):=jq (HB.out.trans (fW.mono ag));have bV:Hid (av w.heap.size w2 (.slice (some ⟨g,0,none⟩) M cap) (q ++ [p])):=jq (HM.out ▸ HO.out.keep fW);rw[az];clear az;have d1:w2.cell? ⟨g,m * 2+1,none⟩=some (.int .i64 p.til):=(fW.cell lg).trans g1;have df:w2.frozen? ⟨g,m * 2+1,none⟩=false:=(fW.frozen lg).trans gf;clear fW g0 g1 gf;go_wp2_with fail;go_region;have dP:Hid (av w.heap.size (w2.setCell ⟨g,m * 2+1,none⟩ (.int .i64 (max p.til ti))).drew (.slice (some ⟨g,0,none⟩) M cap) (q ++ [⟨p.frm,max p.til ti⟩])/\Below w.heap.size w (w2.setCell ⟨g,m * 2+1,none⟩ (.int .i64 (max p.til ti))).drew):=jq (by
      have h1:w2.ownsRow w.heap.size 110 2 (.slice (some ⟨g,0,none⟩) (q ++ [p]).length cap) (q ++ [p]).length ((q ++ [p]).map dU).flatten:=by
       have:=bV.out
       rw[<-HM.out] at this;exact this
      obtain⟨h2,h3⟩:=World.ownsRow.stored h1 (m * 2+1) (.int .i64 (max p.til ti));refine⟨av.keep (w:=w2.setCell ⟨g,m * 2+1,none⟩ (.int .i64 (max p.til ti))) ?_ (vQ _ _).drew,(ai.out.grown h3 ai.out.size (λk hk=>by simp at hk;omega)).drew⟩;rw[<-HQ.out] at h2 |-;rw[NS.out] at h2;have e1:(q ++ [(⟨p.frm,max p.til ti⟩:Np.Span)]).length=(q ++ [p]).length:=by simp
      unfold av;rw[e1,<-HM.out];exact h2)
     go_wp2_with fail;go_roundw
     case rel=>exact⟨k+1,by omega,by go_num,jq dP.out.2,jq (by rw[gS.out];exact dP.out.1)⟩
     case measure=>simp[intOf] <;> omega
    ·have hd:decide (fr<=p.til)=false:=tQ fJ;have gS:Hid ((l.take (k+1)).foldl Np.eC []=q ++ [p] ++ [⟨fr,ti⟩]):=jq (by rw[HT.out,GV.out,Qc fJ]);clear fJ;go_wp2_with fail;go_quiet (fail);obtain⟨w2,az⟩:=abY ((wr.alloc (.cells #[.int .i64 fr,.int .i64 ti] 110)).drewN nq);have aC:w2.heap.size=wr.heap.size+1:=by rw[<-az];simp
     have c0:w2.cell? ⟨wr.heap.size,0,none⟩=some (.int .i64 fr):=by rw[<-az];simp[go_sem]
     have c1:w2.cell? ⟨wr.heap.size,1,none⟩=some (.int .i64 ti):=by rw[<-az];simp[go_sem]
     have fW:Below wr.heap.size wr w2:=by rw[<-az];exact below_drewN ((vQ _ _).alloc (bQ _) _) _
     have ai:Hid (Below w.heap.size w w2):=jq (HB.out.trans (fW.mono ag));have bV:Hid (av w.heap.size w2 (.slice (some ⟨g,0,none⟩) M cap) (q ++ [p])):=jq (HM.out ▸ HO.out.keep fW);rw[az];clear az;clear fW g0 g1 gf;go_wp2_with (at_builtin;refine BG _ rfl _ _ rfl w.heap.size _ (q ++ [p]) rfl (bV.out.alloc _) w2.heap.size fr ti (by simp[go_sem]) (by simp[go_sem]) (by simp[go_sem]) Oq.out (by simp;omega) ?_;intro v5 w5 il aA;have H5:=jq (And.intro il aA);clear il aA);go_roundw
     case rel=>exact⟨k+1,by omega,by go_num,jq ((ai.out.alloc (by omega) _).trans H5.out.2),jq (by rw[gS.out];exact H5.out.1)⟩
     case measure=>simp[intOf] <;> omega
  ·have HE':Hid (l.take k=l):=jq (kQ (by omega));go_wp2_with fail;go_ret;exact⟨_,rfl,by have:=HO.out;rwa [HE'.out] at this,HB.out⟩
def Np.uD(s:Np.Span):Prop:=0<=s.frm/\s.frm<s.til/\s.til<=20000000
theorem av.weak{base base':Nat}{w:World}{v:Value}{ps:List Np.Span}(h:av base w v ps)(hb:base'<=base):av base' w v ps:=by
 refine⟨h.1,?_⟩;rcases h.2 with h2 | ⟨g,cap,cur,h1,h2,h3⟩
 ·exact .inl h2
 ·exact .inr ⟨g,cap,cur,h1,yQ hb h2,h3⟩
theorem rq(l:List Np.Span):(Np.fO l).length<=l.length:=by
 have:=L6 (l.mergeSort λa b=>decide (a.frm<=b.frm)) []
 simpa [Np.fO] using this
theorem KP(v:Value)(l:List Np.Span)(dG:l.length<=20000)(hin:∀ s∈l,Np.uD s)(w:World)(h:SlR cm 2 w w.heap.size v l) :
 Calls prog 109 #[v] w (λe w'=>∃ v',e = .returned (.tuple #[v',.int .i64 0])/\av w.heap.size w' v' (Np.fO l)/\Below w.heap.size w w'):=by
 have HD:=jq h;have oF:=jq hin;obtain⟨A,c,rfl,aT,cu⟩:=ar h;clear h hin;have fJ:decide (20000<(l.length:Int))=false:=acK;go_enter func109,ntmps109;go_wp2_with fail;go_loopw [12] (λi wr=>∃ (k:Nat),k<=l.length/\i = .int .i64 k/\Hid (Below w.heap.size w wr)) (λi _=>l.length - (intOf i).toNat)
 case atStart=>exact⟨0,jQ _,rfl,jq (vQ _ _)⟩
 case round=>
  obtain⟨k,hk,rfl,HB⟩:=hrel;have ag:=HB.out.size;by_cases aa:k<l.length
  ·obtain⟨x,ac⟩:∃ x,l[k]?=some x:=⟨_,aQ aa⟩;obtain⟨A',c',hA',_,_,aL⟩:=HD.out.keep cI HB.out
   cases hA'
   obtain⟨b,o,e,rfl,bC,hlen,hce,hR⟩:=aL k _ ac;obtain rfl:=hR;have h0:wr.cell? ⟨b,o+k * 2,none⟩=some (.int .i64 x.frm):=hce 0 _ rfl;have h1:wr.cell? ⟨b,o+k * 2+1,none⟩=some (.int .i64 x.til):=hce 1 _ rfl;obtain⟨i1,i2,i3⟩:=oF.out x (gQ ac);have ke:decide (x.frm<0)=false:=acK;have qK:decide (x.til<x.frm)=false:=acK;have Sj:decide (20000000<x.til)=false:=acK;have ca:Hid (∀ o,Below w.heap.size w (wr.alloc o)):=jq (λo=>HB.out.alloc HB.out.size _);have cg:b<wr.heap.size:=by omega
   obtain⟨fr,ti⟩:=x;clear aL hce ac i1 i2 i3;dsimp only at h0 h1 ke qK Sj;go_wp2_with fail;go_roundw
   case rel=>exact⟨k+1,by omega,by go_num,jq (ca.out _)⟩
   case measure=>simp[intOf] <;> omega
  ·have jv:=jq (HD.out.keep cI HB.out);go_wp2_with fail;refine (W9 _ l dG (λs hs=>(oF.out s hs).2.1) _ ((jv.out.more iw ag))).mono ?_;rintro e w2 ⟨v2,rfl,dK,ab⟩;have bV:=jq dK;have ai:=jq (HB.out.trans (ab.mono ag));have aC:wr.heap.size<=w2.heap.size:=ab.size;clear dK ab;obtain⟨A2,c2,rfl⟩:=bV.out.form;go_wp2_with fail;refine (Xh wr.heap.size _ l _ bV.out (by omega)).mono ?_;rintro e w3 ⟨rfl,ys,hp,hs,gb,kL⟩;have gE:ys.length=l.length:=hp.length_eq;have HY:Hid (ys.foldl Np.eC []=Np.fO l):=jq (Np.Vv (λs hs=>(oF.out s hs).2.1) hp hs);have fp:=jq gb;have ae:Below wr.heap.size w2 w3:=(vQ _ _).grown kL aC (λk hk=>(World.ownsRow.lt bV.out k hk).1);have ay:=jq (ai.out.trans (ae.mono ag));clear hp hs gb kL;go_wp2_with fail;refine (XW _ ys (by omega) _ (fp.out.slr (by omega))).mono ?_;rintro e w4 ⟨v4,rfl,iR,ah⟩;have HE:=jq (And.intro iR (ay.out.trans (ah.mono ay.out.size)));clear iR ah;go_wp2_with fail;go_ret2;exact⟨_,rfl,by have:=HE.out.1.weak ay.out.size;rw[HY.out] at this;exact this,HE.out.2⟩
structure SpBox(W:World)(b:Nat)(f u:Int):Prop where
 c0:W.cell? ⟨b,0,none⟩=some (.int .i64 f)
 c1:W.cell? ⟨b,1,none⟩=some (.int .i64 u)
 f0:W.frozen? ⟨b,0,none⟩=false
 f1:W.frozen? ⟨b,1,none⟩=false
 lt:b<W.heap.size
theorem SpBox.keep{W W':World}{b:Nat}{f u:Int}(h:SpBox W b f u){B:Nat}(hb:Below B W W')(hB:b<B):SpBox W' b f u:=
 ⟨(hb.cell hB).trans h.c0,(hb.cell hB).trans h.c1,(hb.frozen hB).trans h.f0,(hb.frozen hB).trans h.f1,lQ h.lt hb.size⟩
theorem av.other{base:Nat}{W:World}{v:Value}{ps:List Np.Span}(h:av base W v ps){p:Addr}(hp:p.block<base)(u:Value):av base (W.setCell p u) v ps:=ownsRow_setCell_below h hp u
structure SpAt(W:World)(b j:Nat)(f u:Int):Prop where
 c0:W.cell? ⟨b,j,none⟩=some (.int .i64 f)
 c1:W.cell? ⟨b,j+1,none⟩=some (.int .i64 u)
theorem SpAt.keep{W W':World}{b j:Nat}{f u:Int}(h:SpAt W b j f u){B:Nat}(hb:Below B W W')(hB:b<B):SpAt W' b j f u:=⟨(hb.cell hB).trans h.c0,(hb.cell hB).trans h.c1⟩
theorem tE{W:World}{B b o n c k:Nat}{l:List Np.Span}{x:Np.Span}(h:SlR cm 2 W B (.slice (some ⟨b,o,none⟩) n c) l)(hx:l[k]?=some x):b<B/\SpAt W b (o+k * 2) x.frm x.til:=by
 obtain⟨A',c',hA',_,_,aL⟩:=h
 cases hA'
 obtain⟨b',o',e,hA,bC,hlen,hce,hR⟩:=aL k _ hx
 cases hA
 obtain rfl:=hR;exact⟨bC,hce 0 _ rfl,hce 1 _ rfl⟩
theorem xE{α:Type}{R:agJ α}{sz:Nat}{W:World}{B:Nat}{A:Option Addr}{n c k:Nat}{l:List α}(h:SlR R sz W B (.slice A n c) l)(hk:k<l.length):∃ b o,A=some ⟨b,o,none⟩:=by
 obtain⟨A',c',hA',_,_,aL⟩:=h
 cases hA'
 obtain⟨b',o',e,hA,_⟩:=aL k _ (aQ hk);exact⟨b',o',hA⟩
structure WithK(X:Nat)(w W:World)(v:Value)(oo:List Np.Span)(fr ti:Int)(b j:Nat)(xf xu:Int):Prop where
 below:Below X w W
 own:av (X+1) W v oo
 box:SpBox W X fr ti
 at_:SpAt W b j xf xu
theorem WithK.keep{X:Nat}{w W W':World}{v:Value}{oo:List Np.Span}{fr ti:Int}{b j:Nat}{xf xu:Int}(h:WithK X w W v oo fr ti b j xf xu)(hb:Below W.heap.size W W')(dh:b<X):WithK X w W' v oo fr ti b j xf xu:=
 ⟨h.below.trans (hb.mono (Nat.le_of_lt h.box.lt)),h.own.keep hb,h.box.keep hb h.box.lt,h.at_.keep hb (Nat.lt_trans dh h.box.lt)⟩
end
namespace Np
def eq(c:Copy):Int×List UInt8:=(c.host,c.zone.apex)
def dV(l:List Copy)(p:Int×List UInt8):List Span:=(l.filter λc=>decide (eq c=p)).map hU
theorem zq(l:List Copy)(c:Copy)(p:Int×List UInt8):dV (l ++ [c]) p=if eq c=p then dV l p ++ [hU c] else dV l p:=by
 unfold dV;rw[List.filter_append];by_cases h:eq c=p
 ·simp[h]
 ·simp[h]
theorem IF{l:List Copy}{p:Int×List UInt8}(h:∀ c∈l,eq c≠p):dV l p = []:=by
 unfold dV;rw[List.filter_eq_nil_iff.2 (λc hc=>by simpa using h c hc)];rfl
structure GrpI(kvs:List ((Int×List UInt8)×List Span))(l:List Copy):Prop where
 nodup:(kvs.map (·.1)).Nodup
 each:∀ x∈kvs,x.2=dV l x.1
 all:∀ c∈l,eq c∈kvs.map (·.1)
theorem GrpI.nil:GrpI [] []:=⟨by simp,λx hx=>(by cases hx),λc hc=>(by cases hc)⟩
theorem GrpI.old{kvs:List ((Int×List UInt8)×List Span)}{l:List Copy}(h:GrpI kvs l){c:Copy}{j:Nat}{g:List Span}(hj:kvs[j]?=some (eq c,g)):GrpI (kvs.set j (eq c,g ++ [hU c])) (l ++ [c]):=by
 obtain⟨hl,he⟩:=cQ.1 hj;have hk:(kvs.set j (eq c,g ++ [hU c])).map (·.1)=kvs.map (·.1):=by
  rw[List.map_set];apply List.ext_getElem?;intro i;rw[List.getElem?_set];split
  ·rename_i e;subst e;rw[List.length_map,Qb hl,List.getElem?_map,hj];rfl
  ·rfl
 have hg:=h.each _ (gQ hj);refine⟨by rw[hk];exact h.nodup,λx hx=>?_,λd hd=>?_⟩
 ·obtain⟨i,hi,rfl⟩:=nQ.1 hx;rw[List.length_set] at hi;rw[List.getElem_set];split
  ·rename_i e;subst e;rw[zq,Qb rfl];simp only at hg |-;rw[<-hg]
  ·rename_i e;rw[zq,Qc]
   ·exact h.each _ (List.getElem_mem hi)
   ·intro e2;apply e;have h1:(kvs.map (·.1))[j]'(by simpa using hl)=(kvs.map (·.1))[i]'(by simpa using hi):=by simp[he,e2]
    exact (List.getElem_inj (h₀:=by simpa using hl) (h₁:=by simpa using hi) h.nodup).1 h1
 ·rw[hk];rcases List.mem_append.1 hd with hd | hd
  ·exact h.all d hd
  ·rw[List.mem_singleton] at hd;subst hd;exact List.mem_map.2 ⟨_,gQ hj,rfl⟩
theorem GrpI.new{kvs:List ((Int×List UInt8)×List Span)}{l:List Copy}(h:GrpI kvs l){c:Copy}(hn:eq c∉kvs.map (·.1)):GrpI (kvs ++ [(eq c,[hU c])]) (l ++ [c]):=by
 have h0:dV l (eq c) = []:=IF λd hd e=>hn (by rw[<-e];exact h.all d hd);refine⟨?_,λx hx=>?_,λd hd=>?_⟩
 ·rw[List.map_append,List.nodup_append];refine⟨h.nodup,by simp,λa ha b hb e=>?_⟩;simp at hb;subst hb;subst e;exact hn ha
 ·rcases List.mem_append.1 hx with hx | hx
  ·rw[zq,Qc]
   ·exact h.each x hx
   ·intro e;exact hn (by rw[e];exact List.mem_map.2 ⟨x,hx,rfl⟩)
  ·rw[List.mem_singleton] at hx;subst hx;rw[zq,Qb rfl,h0];rfl
 ·rw[List.map_append];rcases List.mem_append.1 hd with hd | hd
  ·exact List.mem_append_left _ (h.all d hd)
  ·rw[List.mem_singleton] at hd;subst hd;simp
def kB(a b:Span):Prop:=a.frm<b.til/\b.frm<a.til
theorem kB.symm{a b:Span}(h:kB a b):kB b a:=⟨h.2,h.1⟩
def CY(m:List Span):Prop:=∀ i (h:i+1<m.length),m[i].til<=m[i+1].frm
theorem WJ{m l:List Span}(hp:m.Perm l)(hs:m.Pairwise λa b=>a.frm<=b.frm)(hf:∀ s∈l,s.frm<s.til):CY m↔l.Pairwise λa b=>¬ kB a b:=by
 rw[<-hp.pairwise_iff (R:=λa b=>¬ kB a b) (λ{a b} h k=>h k.symm)];have Jq:∀ s∈m,s.frm<s.til:=λs hs=>hf s (hp.mem_iff.1 hs);clear hp hf;constructor
 ·intro h;rw[List.pairwise_iff_getElem];intro i j hi hj ct ho;have key:∀ d,∀ (h1:i+d+1<m.length),(m[i]'(by omega)).til<=(m[i+d+1]'h1).frm:=by
   intro d
   induction d with
   | zero=>intro h1;exact h i h1
   | succ d ih=>
    intro h1;have h2:=ih (by omega);have h3:=h (i+d+1) (by omega);have h4:=Jq _ (List.getElem_mem (show i+d+1<m.length by omega));have e:i+(d+1)+1=i+d+1+1:=by omega
    simp only[e];omega
  obtain⟨d,rfl⟩:∃ d,j=i+d+1:=⟨j - i - 1,by omega⟩
  have:=key d hj
  have:=ho.2
  omega
 ·intro h i hi;rw[List.pairwise_iff_getElem] at h hs;have h1:=h i (i+1) (by omega) hi (by omega);have h2:=hs i (i+1) (by omega) hi (by omega);have h3:=Jq _ (List.getElem_mem hi);unfold kB at h1;omega
theorem Rk(l:List Copy):(l.Pairwise λc d=>¬ pW c d)↔∀ p,(dV l p).Pairwise λa b=>¬ kB a b:=by
 induction l with
 | nil=>simp[dV]
 | cons c l ih=>
  rw[List.pairwise_cons,ih];constructor
  ·rintro⟨h1,h2⟩ p;by_cases hp:eq c=p
   ·have e:dV (c::l) p=hU c::dV l p:=by unfold dV;simp[hp]
    rw[e,List.pairwise_cons];refine⟨λs hs=>?_,h2 p⟩;obtain⟨d,hd,rfl⟩:=List.mem_map.1 hs;obtain⟨ke,qK⟩:=List.mem_filter.1 hd;have hk:eq d=eq c:=by rw[hp];simpa using qK
    intro ho;unfold eq at hk;simp only[Prod.mk.injEq] at hk;exact h1 d ke ⟨hk.1.symm,hk.2.symm,ho.1,ho.2⟩
   ·have e:dV (c::l) p=dV l p:=by unfold dV;simp[hp]
    rw[e];exact h2 p
  ·intro h;refine⟨λd hd jH=>?_,λp=>?_⟩
   ·have h1:=h (eq c);have e:dV (c::l) (eq c)=hU c::dV l (eq c):=by unfold dV;simp
    rw[e,List.pairwise_cons] at h1;refine h1.1 (hU d) (List.mem_map.2 ⟨d,List.mem_filter.2 ⟨hd,?_⟩,rfl⟩) ⟨jH.2.2.1,jH.2.2.2⟩;unfold eq;simp[jH.1,jH.2.1]
   ·have h1:=h p;by_cases hp:eq c=p
    ·have e:dV (c::l) p=hU c::dV l p:=by unfold dV;simp[hp]
     rw[e,List.pairwise_cons] at h1;exact h1.2
    ·have e:dV (c::l) p=dV l p:=by unfold dV;simp[hp]
     rwa [e] at h1
theorem GrpI.ok{kvs:List ((Int×List UInt8)×List Span)}{l:List Copy}(h:GrpI kvs l):(l.Pairwise λc d=>¬ pW c d)↔∀ x∈kvs,x.2.Pairwise λa b=>¬ kB a b:=by
 rw[Rk];constructor
 ·intro h1 x hx;rw[h.each x hx];exact h1 _
 ·intro h1 p;by_cases hp:p∈kvs.map (·.1)
  ·obtain⟨x,hx,rfl⟩:=List.mem_map.1 hp;rw[<-h.each x hx];exact h1 x hx
  ·rw[IF λc hc e=>hp (by rw[<-e];exact h.all c hc)];exact List.Pairwise.nil
theorem xg{l:List Copy}{a:List UInt8} : a∈apexes l↔∃ c∈l,c.zone.apex=a:=by
 unfold apexes;rw[(Bv _).mem_iff,xi,List.mem_map]
theorem PH{l m:List Copy}(h:∀ a,(∃ c∈l,c.zone.apex=a)↔∃ c∈m,c.zone.apex=a):apexes l=apexes m:=
 LT kp _ _ (LN (xk _)) (LN (xk _)) λa=>xg.trans ((h a).trans xg.symm)
def sh(a:Int)(c:Copy):List Copy:=if c.frm<a/\a<c.til then [⟨c.host,c.frm,a,c.zone⟩,⟨c.host,a,c.til,c.zone⟩] else [c]
def qB(l:List Copy)(k:Nat)(a:Int):List Copy:=
 match l[k]? with
 | none=>l
 | some c=>l.take k++sh a c++l.drop (k+1)
theorem Qv{a:Int}{c d:Copy}(h:d∈sh a c):d.host=c.host/\d.zone=c.zone/\c.frm<=d.frm/\d.til<=c.til/\(c.frm<c.til->d.frm<d.til):=by
 unfold sh at h;split at h
 ·rename_i hc;simp only[List.mem_cons,Qh,or_false] at h;rcases h with rfl | rfl
  ·exact⟨rfl,rfl,Int.le_refl _,Int.le_of_lt hc.2,λ_=>hc.1⟩
  ·exact⟨rfl,rfl,Int.le_of_lt hc.1,Int.le_refl _,λ_=>hc.2⟩
 ·rw[List.mem_singleton] at h;subst h;exact⟨rfl,rfl,Int.le_refl _,Int.le_refl _,id⟩
theorem Qx{l:List Copy}{k:Nat}{c:Copy}(h:l[k]?=some c):l=l.take k ++ [c]++l.drop (k+1):=by
 obtain⟨hk,rfl⟩:=cQ.1 h;rw[List.append_assoc,List.singleton_append,List.getElem_cons_drop,List.take_append_drop]
theorem Ib(l:List Copy)(k:Nat)(a:Int):qB l k a=l\/∃ p c q,l=p ++ [c]++q/\qB l k a=p++sh a c++q:=by
 unfold qB
 cases h:l[k]? with
 | none=>exact .inl rfl
 | some c=>exact .inr ⟨_,c,_,Qx h,rfl⟩
theorem Ic{l:List Copy}{k:Nat}{a:Int}{d:Copy}(h:d∈qB l k a):∃ c∈l,d.host=c.host/\d.zone=c.zone/\c.frm<=d.frm/\d.til<=c.til/\(c.frm<c.til->d.frm<d.til):=by
 rcases Ib l k a with e | ⟨p,c,q,e1,e2⟩
 ·rw[e] at h;exact⟨d,h,rfl,rfl,Int.le_refl _,Int.le_refl _,id⟩
 ·rw[e2] at h;rcases List.mem_append.1 h with h | h
  ·rcases List.mem_append.1 h with h | h
   ·exact⟨d,by rw[e1];simp[h],rfl,rfl,Int.le_refl _,Int.le_refl _,id⟩
   ·exact⟨c,by rw[e1];simp,Qv h⟩
  ·exact⟨d,by rw[e1];simp[h],rfl,rfl,Int.le_refl _,Int.le_refl _,id⟩
theorem I5{l:List Copy}(hl:mc l){P:Int->Zone->Prop} : (∃ c∈l,P c.host c.zone)↔∃ t,∃ c∈l,P c.host c.zone/\c.frm<=t/\t<c.til:=
 ⟨λ⟨c,h1,h2⟩=>⟨c.frm,c,h1,h2,Int.le_refl _,hl c h1⟩,λ⟨_,c,h1,h2,_⟩=>⟨c,h1,h2⟩⟩
def se(l m:List Copy):Prop:=∀ (P:Int->Zone->Prop) (t:Int),(∃ d∈l,P d.host d.zone/\d.frm<=t/\t<d.til)↔∃ c∈m,P c.host c.zone/\c.frm<=t/\t<c.til
theorem se.zone{l m:List Copy}(h:se l m)(hl:mc l)(hm:mc m){P:Int->Zone->Prop} : (∃ c∈l,P c.host c.zone)↔∃ c∈m,P c.host c.zone:=by
 rw[I5 hl,I5 hm];exact⟨λ⟨t,ht⟩=>⟨t,(h P t).1 ht⟩,λ⟨t,ht⟩=>⟨t,(h P t).2 ht⟩⟩
theorem se.apexes{l m:List Copy}(h:se l m)(hl:mc l)(hm:mc m):apexes l=apexes m:=
 PH λa=>h.zone hl hm (P:=λ_ z=>z.apex=a)
theorem se.fresh{l m:List Copy}(h:se l m)(hl:mc l)(hm:mc m)(zone:List UInt8)(s:Signed):fO (eB (ci l zone) s)=fO (eB (ci m zone) s):=by
 refine Vu (BA hl) (BA hm) λt=>EN.trans (Iff.trans ?_ EN.symm)
 have:=h (λ_ z=>z.apex=zone/\s∈z.sets) t
 simpa only[and_assoc] using this
theorem KY(a b:List Copy)(zone:List UInt8):ci (a++b) zone=ci a zone++ci b zone:=by
 unfold ci qA;rw[List.filter_append,List.flatMap_append]
theorem Qw(l:List Copy)(k:Nat)(a:Int):(qB l k a).length<=l.length+1:=by
 rcases Ib l k a with e | ⟨p,c,q,e1,e2⟩
 ·rw[e];omega
 ·rw[e2,e1]
  have:(sh a c).length<=2:=by unfold sh;split <;> simp
  simp only[List.length_append,List.length_singleton];omega
def withC(h:Hist)(l:List Copy):Hist:=⟨h.hosts,l,h.anchor,h.hints,h.drift,h.stop⟩
def tC(l:List Copy)(u:Int):List Copy:=(l.map λc=>⟨c.host,c.frm,min c.til u,c.zone⟩).filter λc=>decide (c.frm<c.til)
theorem KH{l:List Copy}{u:Int}{d:Copy} : d∈tC l u↔∃ c∈l,d=⟨c.host,c.frm,min c.til u,c.zone⟩/\c.frm<min c.til u:=by
 unfold tC;rw[List.mem_filter,List.mem_map];constructor
 ·rintro⟨⟨c,hc,rfl⟩,h⟩;exact⟨c,hc,rfl,by simpa using h⟩
 ·rintro⟨c,hc,rfl,h⟩;exact⟨⟨c,hc,rfl⟩,by simpa using h⟩
theorem W8(l:List Copy)(u:Int):(tC l u).length<=l.length:=by
 unfold tC;exact yQ (List.length_filter_le _ _) (by rw[List.length_map];exact bQ _)
def C0(s:Signed):Prop:=∀ g∈s.sigs,0<=g.sum/\g.sum<18446744073709551616
def kC(h:Hist):Prop:=∀ c∈h.copies,∀ s∈c.zone.sets,C0 s
theorem WX{c:UInt8}(h:mL c=true):c≠47:=by rintro rfl;revert h;decide
theorem Bc{l:List UInt8}(h:aG l=true):47∉l:=λhm=>by
 obtain⟨_,rfl | ⟨c,r,rfl,_,hr⟩⟩:=tt h
 ·revert hm;decide
 ·exact WX (List.all_eq_true.1 hr 47 hm) rfl
theorem Q5{l:List UInt8}(h:ir l=true):47∉l:=λhm=>by
 unfold ir at h;simp only[Bool.and_eq_true] at h
 have:=List.all_eq_true.1 h.2 47 hm
 revert this;decide
theorem XG{k:Int}{l:List UInt8}(h:tM k l=true):47∉l:=by
 unfold tM at h;split at h
 ·simp only[Bool.and_eq_true] at h;exact Bc h.1
 ·split at h
  ·exact Bc h
  ·split at h
   ·exact Q5 h
   ·have:l = []:=by simpa using h
    rw[this];simp
theorem Lt(k:Int):0<=(bN k).leastN/\0<=(bN k).leastM:=by
 unfold bN;generalize k.toNat=n;by_cases h:n<9
 ·have:∀ m,m<9->0<=(rules.getD m ⟨0,0,0,0,0,false,false,false⟩).leastN/\0<=(rules.getD m ⟨0,0,0,0,0,false,false,false⟩).leastM:=by decide
  exact this n h
 ·have e:rules[n]?=none:=List.getElem?_eq_none (by simp[rules];omega);rw[List.getD_eq_getElem?_getD,e];decide
theorem QC{k:Int}{d:Datum}(h:jt (bN k) d=true):47∉d.text/\0<=d.n/\0<=d.m:=by
 unfold jt at h;simp only[Bool.and_eq_true,Qa] at h;obtain⟨⟨⟨⟨h1,_⟩,h2,_⟩,_⟩,h3⟩:=h
 have:=Lt k
 exact⟨XG h3,by omega,by omega⟩
theorem rG{z:Zone}(v:VZone z):aG z.apex=true/\∀ x∈z.sets,bO x.set=true:=by
 have h:=v.right;unfold g8 at h;simp only[Bool.and_eq_true] at h;exact⟨h.1.1,Ds h.2⟩
theorem Mw{z:Zone}(v:VZone z){x:Signed}(hx:x∈z.sets)(hs:C0 x):Plain47 x:=by
 obtain⟨ha,hv⟩:=rG v;obtain⟨h1,h2,h3,h4,h5,h6,h7,h8⟩:=tN (hv x hx);refine⟨Bc h1,by omega,h4,λd hd=>QC (Dp h8 d hd),λg hg=>?_⟩;obtain⟨i,hi⟩:=List.mem_iff_getElem?.1 hg
 have:=(v.form x hx).2 i g hi
 exact⟨by rw[this.zone];exact Bc ha,by have:=this.key;omega,by have:=this.alg;omega,this.win.1,by have:=this.win;omega,(hs g hg).1⟩
def kl(us:List Signed):List (List UInt8×Value):=us.zipIdx.map λp=>(gL p.1,.int .i64 ((p.2:Nat):Int))
theorem UG(us:List Signed)(s:Signed):kl (us ++ [s])=kl us ++ [(gL s,.int .i64 ((us.length:Nat):Int))]:=by
 unfold kl;rw[List.zipIdx_append,List.map_append];simp
theorem Kw:∀ (us:List Signed) (n:Nat) (s:Signed),Plain47 s->(∀ x∈us,Plain47 x)->s∉us->((us.zipIdx n).map λp=>(gL p.1,Value.int .i64 ((p.2:Nat):Int))).lookup (gL s)=none
 | [],_,_,_,_,_=>rfl
 | x::us,n,s,hs,hu,hn=>by
   rw[List.zipIdx_cons,List.map_cons,List.lookup_cons];have hne:(gL s == gL x)=false:=by
    rw[beq_eq_false_iff_ne];intro e;exact hn (by rw[Kv hs (hu x (by simp)) e];simp)
   rw[hne];exact Kw us (n+1) s hs (λy hy=>hu y (mQ _ hy)) (λh=>hn (mQ _ h))
theorem UF{us:List Signed}{s:Signed}(hs:Plain47 s)(hu:∀ x∈us,Plain47 x)(hn:s∉us):(kl us).lookup (gL s)=none:=Kw us 0 s hs hu hn
theorem Kx:∀ (us:List Signed) (n:Nat) (s:Signed) (i:Nat),Plain47 s->(∀ x∈us,Plain47 x)->us.Nodup->us[i]?=some s->((us.zipIdx n).map λp=>(gL p.1,Value.int .i64 ((p.2:Nat):Int))).lookup (gL s)=some (.int .i64 ((n+i:Nat):Int))
 | [],_,_,_,_,_,_,h=>by simp at h
 | x::us,n,s,i,hs,hu,hd,h=>by
   rw[List.zipIdx_cons,List.map_cons,List.lookup_cons]
   cases i with
   | zero=>
    have e:x=s:=by simpa using h
    subst e;simp
   | succ i=>
    have h':us[i]?=some s:=by simpa using h
    have hne:(gL s == gL x)=false:=by
     rw[beq_eq_false_iff_ne];intro e
     have:=Kv hs (hu x (by simp)) e
     subst this;exact (List.nodup_cons.1 hd).1 (gQ h')
    rw[hne]
    have:=Kx us (n+1) s i hs (λy hy=>hu y (mQ _ hy)) (List.nodup_cons.1 hd).2 h'
    rw[show n+(i+1)=n+1+i by omega];exact this
theorem UH{us:List Signed}{s:Signed}{i:Nat}(hs:Plain47 s)(hu:∀ x∈us,Plain47 x)(hd:us.Nodup)(h:us[i]?=some s):(kl us).lookup (gL s)=some (.int .i64 ((i:Nat):Int)):=by
 have:=Kx us 0 s i hs hu hd h
 rwa [Nat.zero_add] at this
def cY(ps:List (Span×Signed)):List (Signed×List Span):=(bZ (ps.map (·.2))).map λs=>(s,eB ps s)
theorem Va(ps:List (Span×Signed)):(cY ps).map (·.1)=bZ (ps.map (·.2)):=by
 unfold cY;rw[List.map_map];exact List.map_id'' (λ_=>rfl) _
theorem Vb(f:List Span->List Span)(zone:List UInt8)(ps:List (Span×Signed)):pg f zone ps=(cY ps).map λx=>⟨zone,x.1,f x.2,[]⟩:=by
 unfold pg cY;rw[List.map_map];rfl
theorem Vd{ps:List (Span×Signed)}{p:Span×Signed}(h:p.2∉bZ (ps.map (·.2))):cY (ps ++ [p])=cY ps ++ [(p.2,[p.1])]:=by
 have hn:p.2∉ps.map (·.2):=λhm=>h (xi.2 hm);unfold cY;rw[List.map_append,List.map_singleton,Fh,iH,Qc h,List.map_append];congr 1
 ·refine List.map_congr_left λs hs=>?_;rw[Bz,Qc (show ¬ p.2=s from λe=>h (by rw[e];exact hs))]
 ·simp[Bz,XJ hn]
theorem Ve{ps:List (Span×Signed)}{p:Span×Signed}{i:Nat}(h:(bZ (ps.map (·.2)))[i]?=some p.2):cY (ps ++ [p])=(cY ps).set i (p.2,eB ps p.2 ++ [p.1]):=by
 obtain⟨hi,he⟩:=cQ.1 h;have hm:p.2∈bZ (ps.map (·.2)):=by rw[<-he];exact List.getElem_mem _
 have Au:=xk (ps.map (·.2));have hu:bZ ((ps ++ [p]).map (·.2))=bZ (ps.map (·.2)):=by rw[List.map_append,List.map_singleton,Fh,Hd hm]
 refine List.ext_getElem? λj=>?_;rw[List.getElem?_set];unfold cY;rw[hu,List.getElem?_map,List.getElem?_map,List.length_map];by_cases ct:i=j
 ·subst ct;rw[Qb rfl,Qb hi,h,Option.map_some,Bz,Qb rfl]
 ·rw[Qc ct]
  cases hj:(bZ (ps.map (·.2)))[j]? with
  | none=>rfl
  | some s=>
   obtain⟨Ae,vD⟩:=cQ.1 hj;have hne:p.2≠s:=λe=>ct ((List.getElem_inj (h₀:=hi) (h₁:=Ae) Au).1 (he.trans (e.trans vD.symm)));rw[Option.map_some,Option.map_some,Bz,Qc hne]
theorem Vc(ps:List (Span×Signed)):(cY ps).length=(bZ (ps.map (·.2))).length:=List.length_map _

def gP(x:Signed)(drift til:Int):Int:=
 match x.sigs with
 | []=>til - 1+max x.set.life 1+2 * drift
 | g::_=>min (til - 1+max x.set.life 1+2 * drift) (g.til+drift+1)
def ja(x:Signed)(drift:Int)(s:Span):Span:=⟨s.frm,max s.til (gP x drift s.til)⟩
def fo(x:Held)(drift:Int):List Span:=fO (x.fresh.map (ja x.signed drift))
def pubAll(h:Hist):List Held:=(apexes h.copies).flatMap λz=>pub h.copies z
def iI(h:Hist):List Held:=(pubAll h).map λx=>{ x with spans:=fo x h.drift }
theorem ID{x:Signed}{d:Int}{l:List Span}(h:∀ s∈l,s.frm<s.til):∀ s∈l.map (ja x d),s.frm<s.til:=λs hs=>by
 obtain⟨r,hr,rfl⟩:=List.mem_map.1 hs
 have:=h r hr
 show r.frm<max r.til (gP x d r.til);omega
theorem XY{x:Held}{d:Int}(h:∀ s∈x.fresh,s.frm<s.til):ApartS (fo x d):=(xl (ID h)).1
theorem xd{x:Held}{d t:Int}(h:∀ s∈x.fresh,s.frm<s.til):inS (fo x d) t↔∃ s∈x.fresh,s.frm<=t/\(t<s.til\/t<gP x.signed d s.til):=by
 unfold fo;rw[(xl (ID h)).2];unfold inS;constructor
 ·rintro⟨s,hs,h1,h2⟩;obtain⟨r,hr,rfl⟩:=List.mem_map.1 hs;refine⟨r,hr,h1,?_⟩;have h3:t<max r.til (gP x.signed d r.til):=h2;omega
 ·rintro⟨r,hr,h1,h2⟩;refine⟨_,List.mem_map.2 ⟨r,hr,rfl⟩,h1,?_⟩;show t<max r.til (gP x.signed d r.til);omega
theorem Uf{x:Held}{d t:Int}(h:∀ s∈x.fresh,s.frm<s.til)(ht:inS x.fresh t):inS (fo x d) t:=by
 obtain⟨s,hs,h1,h2⟩:=ht;exact (xd h).2 ⟨s,hs,h1,.inl h2⟩
theorem AZ{h:Hist}{x:Held} : x∈pubAll h↔∃ z∈apexes h.copies,x∈pub h.copies z:=by
 unfold pubAll;rw[List.mem_flatMap]
theorem KZ(c:Copy)(z:List UInt8):(ci [c] z).length=if c.zone.apex=z then c.zone.sets.length else 0:=by
 unfold ci qA;rw[List.filter_cons,List.filter_nil];by_cases h:c.zone.apex=z
 ·have hb:(c.zone.apex == z)=true:=by rw[h];simp
  rw[Qb h,hb,Qb rfl];simp[kZ]
 ·have hb:(c.zone.apex == z)=false:=by simpa using h
  rw[Qc h,hb];simp
theorem K0(c:Copy):∀ zs:List (List UInt8),zs.Nodup->(zs.map λz=>(ci [c] z).length).sum<=c.zone.sets.length
 | [],_=>by simp
 | z::zs,h=>by
   obtain⟨h1,h2⟩:=List.nodup_cons.1 h;rw[List.map_cons,List.sum_cons,KZ];by_cases e:c.zone.apex=z
   ·rw[Qb e];have h0:(zs.map λz=>(ci [c] z).length).sum=0:=by
     rw[List.sum_eq_zero_iff_forall_eq_nat];intro n hn;obtain⟨y,hy,rfl⟩:=List.mem_map.1 hn;rw[KZ,Qc (λe2=>h1 (by rw[<-e,e2];exact hy))]
    omega
   ·rw[Qc e,Nat.zero_add];exact K0 c zs h2
theorem LV{α:Type}(f g:α->Nat):∀ l:List α,(l.map λx=>f x+g x).sum=(l.map f).sum+(l.map g).sum
 | []=>rfl
 | x::l=>by
   have:=LV f g l
   simp only[List.map_cons,List.sum_cons];omega
theorem KX{n:Nat} : ∀ (l:List Copy),(∀ c∈l,c.zone.sets.length<=n)->∀ zs:List (List UInt8),zs.Nodup->(zs.map λz=>(ci l z).length).sum<=l.length * n
 | [],_,zs,_=>by
   have:(zs.map λz=>(ci [] z).length).sum=0:=by
    rw[List.sum_eq_zero_iff_forall_eq_nat];intro n hn;obtain⟨y,hy,rfl⟩:=List.mem_map.1 hn;rfl
   omega
 | c::l,h,zs,hz=>by
   have h1:=KX l (λd hd=>h d (mQ _ hd)) zs hz;have h2:=K0 c zs hz;have h3:=h c (by simp);have e:(zs.map λz=>(ci (c::l) z).length)=zs.map λz=>(ci [c] z).length+(ci l z).length:=by
    refine List.map_congr_left λz _=>?_
    have:=KY [c] l z
    rw[List.singleton_append] at this;rw[this,List.length_append]
   rw[e,LV,List.length_cons,Nat.add_mul,Nat.one_mul];omega
theorem Wu(l:List Copy)(z:List UInt8):(pub l z).length<=(ci l z).length:=by
 unfold pub;rw[St]
 have:=tL ((ci l z).map (·.2))
 rwa [List.length_map] at this
theorem LW{α:Type}{f g:α->Nat}(h:∀ x,f x<=g x):∀ l:List α,(l.map f).sum<=(l.map g).sum
 | []=>bQ _
 | x::l=>by
   have:=LW h l
   have:=h x
   simp only[List.map_cons,List.sum_cons];omega
theorem PG(l:List Copy):(apexes l).Nodup:=by
 unfold apexes;exact (Bv _).nodup_iff.2 (xk _)
def pubTo(h:Hist)(k:Nat):List Held:=((apexes h.copies).take k).flatMap λz=>pub h.copies z
theorem Wq{h:Hist}{k:Nat}{z:List UInt8}(hz:(apexes h.copies)[k]?=some z):pubTo h (k+1)=pubTo h k++pub h.copies z:=by
 obtain⟨hl,he⟩:=cQ.1 hz;unfold pubTo;rw[fQ hl,he,List.flatMap_append];simp
theorem Lc{h:Hist}{k:Nat}(hk:(apexes h.copies).length<=k):pubTo h k=pubAll h:=by
 unfold pubTo pubAll;rw[kQ hk]
theorem Ld{h:Hist}{n m:Nat}(hn:∀ c∈h.copies,c.zone.sets.length<=n)(hm:h.copies.length<=m)(k:Nat):(pubTo h k).length<=m * n:=by
 unfold pubTo;rw[List.length_flatMap];refine yQ (LW (λz=>Wu h.copies z) _) (yQ (KX h.copies hn _ ((PG _).sublist (List.take_sublist _ _))) (Nat.mul_le_mul_right n hm))
theorem Wn{h:Hist}{n m:Nat}(hn:∀ c∈h.copies,c.zone.sets.length<=n)(hm:h.copies.length<=m):(pubAll h).length<=m * n:=by
 rw[<-Lc (bQ _)];exact Ld hn hm _
def kD(d:Int)(l:List Held)(k:Nat):List Held:=(l.take k).map (λx=>{ x with spans:=fo x d })++l.drop k
theorem PA(d:Int)(l:List Held)(k:Nat):(kD d l k).length=l.length:=by
 unfold kD;rw[List.length_append,List.length_map,<-List.length_append,List.take_append_drop]
theorem Hf{d:Int}{l:List Held}{k:Nat}{x:Held}(hx:l[k]?=some x):(kD d l k)[k]?=some x:=by
 have hl:=(cQ.1 hx).1;unfold kD;rw[oQ (by simp;omega),List.length_map,List.length_take,Nat.min_eq_left (by omega),Nat.sub_self,List.getElem?_drop,Nat.add_zero];exact hx
theorem PB{d:Int}{l:List Held}{k:Nat}{x:Held}(hx:l[k]?=some x):(kD d l k).set k { x with spans:=fo x d } = kD d l (k+1):=by
 obtain⟨hl,he⟩:=cQ.1 hx;unfold kD;have hn:((l.take k).map λx:Held=>{ x with spans:=fo x d }).length=k:=by simp;omega
 rw[List.set_append_right _ _ (by omega),hn,Nat.sub_self,fQ hl,he,List.map_append,List.append_assoc];congr 1;rw[<-List.getElem_cons_drop hl,he];rfl
theorem Pz{h:Hist}{k:Nat}(hk:(pubAll h).length<=k):kD h.drift (pubAll h) k=iI h:=by
 unfold kD iI;rw[kQ hk,List.drop_of_length_le hk,List.append_nil]
structure Ent22 where
 signed:Signed
 zone:List UInt8
 til:Int
deriving DecidableEq
noncomputable def mo(h:Hist):Int×List Held:=if yes (VHist h) then (0,iI h) else (1,[])
theorem yV{h:Hist}(k:VHist h):mo h=(0,iI h):=by unfold mo;rw[dz k];rfl
theorem C2{h:Hist}(k:¬ VHist h):mo h=(1,[]):=by unfold mo;rw[bP k];rfl
def Ul(a b:Ent22):Prop:=a.signed.set.name=b.signed.set.name/\a.signed.set.type=b.signed.set.type/\a.zone=b.zone
structure EntOk(e:Ent22):Prop where
 name:aG e.signed.set.name=true
 zone:aG e.zone=true
 wild:eU e.zone=false
 under:dm e.signed.set.name e.zone=true
 til:1<=e.til/\e.til<=20100001
 kind:(e.signed.set.data = []/\(1<=e.signed.set.type/\e.signed.set.type<=8)/\(0<=e.signed.set.life/\e.signed.set.life<=100000)/\e.signed.sigs = [])\/(e.signed.set.data≠[]/\bO e.signed.set=true/\fF e.zone e.signed.sigs)
structure VCache(l:List Ent22):Prop where
 few:l.length<=400
 each:∀ e∈l,EntOk e
 apart:l.Pairwise λa b=>¬ Ul a b
theorem VCache.sub{l m:List Ent22}(h:VCache l)(hm:m.Sublist l):VCache m:=
 ⟨yQ hm.length_le h.few,λe he=>h.each e (hm.subset he),h.apart.sublist hm⟩
end Np
end Go.Proofs.YtfnopgdcaanaiaaGreatDoor
