/- Parts of the proof. No condition. -/
import Derived.Test.YtfnopgdcaanaiaaGreatDoorU02
import Derived.Test.YtfnopgdcaanaiaaGreatDoorU03
import Derived.Test.YtfnopgdcaanaiaaGreatDoorU04
import Derived.Test.YtfnopgdcaanaiaaGreatDoorU05
set_option linter.all false
set_option maxRecDepth 100000
set_option maxHeartbeats 8000000
namespace Go.Proofs.YtfnopgdcaanaiaaGreatDoor
open Go.Proofs.Tryz
namespace Np
structure Host where
 name:List UInt8
 addr:Int
 owner:Int
deriving DecidableEq
structure Copy where
 host:Int
 frm:Int
 til:Int
 zone:Zone
deriving DecidableEq
structure Placed where
 host:Int
 zone:Zone
deriving DecidableEq
structure Held where
 zone:List UInt8
 signed:Signed
 fresh:List Span
 spans:List Span
deriving DecidableEq
structure Hist where
 hosts:List Host
 copies:List Copy
 anchor:DSet
 hints:List Int
 drift:Int
 stop:Int
structure WorldP where
 hosts:List Host
 zones:List Placed
 anchor:DSet
 hints:List Int
noncomputable def yes(P:Prop):Bool:=@decide P (Classical.propDecidable P)
theorem bS{P:Prop}(h:P):yes P=true:=by unfold yes;exact @uQ _ (Classical.propDecidable P) h
theorem aK{P:Prop}(h:¬ P):yes P=false:=by unfold yes;exact @tQ _ (Classical.propDecidable P) h
theorem fo{P:Prop} : yes P=true↔P:=by unfold yes;exact @decide_eq_true_iff _ (Classical.propDecidable P)
theorem r9{P Q:Prop}(h:P↔Q):yes P=yes Q:=by rw[Bool.eq_iff_iff,fo,fo];exact h
structure HostOk(h:Host):Prop where
 name:aD h.name=true
 wild:dO h.name=false
 addr:1<=h.addr/\h.addr<=1000000
 owner:0<=h.owner/\h.owner<=31
structure VHosts(l:List Host):Prop where
 few:l.length<=64
 each:∀ h∈l,HostOk h
 addrs:(l.map (·.addr)).Nodup
structure VRoot(a:DSet)(hints:List Int):Prop where
 set:da a=true
 type:a.type=6
 name:a.name = [46]
 few:1<=hints.length/\hints.length<=8
 each:∀ n∈hints,1<=n/\n<=1000000
structure CopyOk(h:Hist)(c:Copy):Prop where
 host:0<=c.host/\c.host<h.hosts.length
 times:0<=c.frm/\c.frm<c.til/\c.til<=h.stop
 zone:VZone c.zone
def ja(c d:Copy):Prop:=c.host=d.host/\c.zone.apex=d.zone.apex/\c.frm<d.til/\d.frm<c.til
structure VHist(h:Hist):Prop where
 stop:1<=h.stop/\h.stop<=10000000
 drift:0<=h.drift/\h.drift<=1000
 hosts:VHosts h.hosts
 root:VRoot h.anchor h.hints
 each:∀ c∈h.copies,CopyOk h c
 apart:h.copies.Pairwise λc d=>¬ ja c d
structure VWorld(w:WorldP):Prop where
 hosts:VHosts w.hosts
 root:VRoot w.anchor w.hints
 each:∀ p∈w.zones,(0<=p.host/\p.host<w.hosts.length)/\VZone p.zone
 apart:w.zones.Pairwise λp q=>¬ (p.host=q.host/\p.zone.apex=q.zone.apex)
def fX(l:List Span):List Span:=(l.mergeSort λa b=>decide (a.frm<=b.frm)).foldl fm []
theorem Mk{l m:List Span}(h:l.Perm m)(t:Int):inS l t↔inS m t:=
 ⟨λ⟨s,hs,k⟩=>⟨s,h.mem_iff.1 hs,k⟩,λ⟨s,hs,k⟩=>⟨s,h.mem_iff.2 hs,k⟩⟩
theorem Kt{l:List Span}(hf:∀ s∈l,s.frm<s.til)(hs:l.Pairwise λa b=>a.frm<=b.frm):ApartS (l.foldl fm [])/\∀ t,inS (l.foldl fm []) t↔inS l t:=by
 obtain⟨h1,h2⟩:=On l [] ApartS.nil hf hs (λp hp=>by cases hp);exact⟨h1,λt=>(h2 t).trans ⟨λh=>h.elim (λh=>absurd h (ix t)) id,.inr⟩⟩
theorem N5(l:List Span):(l.mergeSort λa b=>decide (a.frm<=b.frm)).Perm l:=List.mergeSort_perm _ _
theorem YV(l:List Span):(l.mergeSort λa b=>decide (a.frm<=b.frm)).Pairwise λa b=>a.frm<=b.frm:=by
 have:=List.pairwise_mergeSort (le:=λa b:Span=>decide (a.frm<=b.frm)) (λx y z h1 h2=>by simp at *;omega) (λx y=>by simp;omega) l
 exact this.imp λh=>by simpa using h
theorem zS{l:List Span}(hf:∀ s∈l,s.frm<s.til):ApartS (fX l)/\∀ t,inS (fX l) t↔inS l t:=by
 obtain⟨h1,h2⟩:=Kt (λs hs=>hf s ((N5 l).mem_iff.1 hs)) (YV l);exact⟨h1,λt=>(h2 t).trans (Mk (N5 l) t)⟩
theorem MP{l m:List Span}(hf:∀ s∈l,s.frm<s.til)(hm:ApartS m)(ht:∀ t,inS m t↔inS l t):m=fX l:=by
 obtain⟨h1,h2⟩:=zS hf;exact EX _ _ hm h1 λt=>(ht t).trans (h2 t).symm
theorem WS{l m:List Span}(hf:∀ s∈l,s.frm<s.til)(hp:m.Perm l)(hs:m.Pairwise λa b=>a.frm<=b.frm):m.foldl fm []=fX l:=by
 obtain⟨h1,h2⟩:=Kt (λs hs=>hf s (hp.mem_iff.1 hs)) hs;exact MP hf h1 λt=>(h2 t).trans (Mk hp t)
theorem WR{l m:List Span}(hl:∀ s∈l,s.frm<s.til)(hm:∀ s∈m,s.frm<s.til)(h:∀ t,inS l t↔inS m t):fX l=fX m:=by
 obtain⟨h1,h2⟩:=zS hl;exact MP hm h1 λt=>(h2 t).trans (h t)
def iY(c:Copy):Span:=⟨c.frm,c.til⟩
def s9(l:List Copy)(zone:List UInt8):List Copy:=l.filter λc=>c.zone.apex == zone
def m9(c:Copy):List (Span×Signed):=c.zone.sets.map λs=>(iY c,s)
def cN(l:List Copy)(zone:List UInt8):List (Span×Signed):=(s9 l zone).flatMap m9
def eG(ps:List (Span×Signed))(s:Signed):List Span:=(ps.filter λp=>decide (p.2=s)).map (·.1)
def pX(f:List Span->List Span)(zone:List UInt8)(ps:List (Span×Signed)):List Held:=(cU (ps.map (·.2))).map λs=>⟨zone,s,f (eG ps s),[]⟩
theorem Dh(ps:List (Span×Signed))(p:Span×Signed)(s:Signed):eG (ps ++ [p]) s=if p.2=s then eG ps s ++ [p.1] else eG ps s:=by
 unfold eG;rw[List.filter_append];by_cases h:p.2=s
 ·simp[h]
 ·simp[h]
theorem Zl{ps:List (Span×Signed)}{s:Signed}(h:s∉ps.map (·.2)):eG ps s = []:=by
 unfold eG;rw[List.filter_eq_nil_iff.2 (λp hp=>?_)];rfl;simp only[Qa];rintro rfl;exact h (List.mem_map.2 ⟨p,hp,rfl⟩)
theorem TS(f:List Span->List Span)(zone:List UInt8)(ps:List (Span×Signed)):(pX f zone ps).length=(cU (ps.map (·.2))).length:=List.length_map _
def pub(l:List Copy)(zone:List UInt8):List Held:=pX fX zone (cN l zone)
def apexes(l:List Copy):List (List UInt8):=rX (cU (l.map (·.zone.apex)))
theorem tT{l:List Copy}{zone:List UInt8}{p:Span×Signed} : p∈cN l zone↔∃ c∈l,c.zone.apex=zone/\p.2∈c.zone.sets/\p.1=iY c:=by
 unfold cN s9 m9;simp only[List.mem_flatMap,List.mem_filter,List.mem_map,beq_iff_eq];constructor
 ·rintro⟨c,⟨h1,h2⟩,s,hs,rfl⟩;exact⟨c,h1,h2,hs,rfl⟩
 ·rintro⟨c,h1,h2,h3,h4⟩;exact⟨c,⟨h1,h2⟩,p.2,h3,by rw[<-h4]⟩
theorem CP{ps:List (Span×Signed)}{s:Signed}{x:Span} : x∈eG ps s↔(x,s)∈ps:=by
 unfold eG;simp only[List.mem_map,List.mem_filter,Qa];constructor
 ·rintro⟨p,⟨h1,rfl⟩,rfl⟩;exact h1
 ·intro h;exact⟨(x,s),⟨h,rfl⟩,rfl⟩
def oa(l:List Copy):Prop:=∀ c∈l,c.frm<c.til
theorem VHist.full{h:Hist}(v:VHist h):oa h.copies:=λc hc=>(v.each c hc).times.2.1
theorem Dj{l:List Copy}(hl:oa l){zone:List UInt8}{s:Signed} : ∀ x∈eG (cN l zone) s,x.frm<x.til:=λx hx=>by
 obtain⟨c,hc,_,_,h4⟩:=tT.1 (CP.1 hx);have h4:x=iY c:=h4;rw[h4];exact hl c hc
theorem GL{l:List Copy}{zone:List UInt8}{s:Signed}{t:Int} : inS (eG (cN l zone) s) t↔∃ c∈l,c.zone.apex=zone/\s∈c.zone.sets/\c.frm<=t/\t<c.til:=by
 constructor
 ·rintro⟨x,hx,h1,h2⟩;obtain⟨c,hc,h3,h4,h5⟩:=tT.1 (CP.1 hx);have h5:x=iY c:=h5;subst h5;exact⟨c,hc,h3,h4,h1,h2⟩
 ·rintro⟨c,hc,h3,h4,h1,h2⟩;exact⟨iY c,CP.2 (tT.2 ⟨c,hc,h3,h4,rfl⟩),h1,h2⟩
theorem Wt{l:List Copy}{zone:List UInt8}{s:Signed} : s∈cU ((cN l zone).map (·.2))↔∃ c∈l,c.zone.apex=zone/\s∈c.zone.sets:=by
 rw[zR,List.mem_map];constructor
 ·rintro⟨p,hp,rfl⟩;obtain⟨c,h1,h2,h3,_⟩:=tT.1 hp;exact⟨c,h1,h2,h3⟩
 ·rintro⟨c,h1,h2,h3⟩;exact⟨(iY c,s),tT.2 ⟨c,h1,h2,h3,rfl⟩,rfl⟩
theorem CO{l:List Copy}(hl:oa l){zone:List UInt8}{x:Held}(hx:x∈pub l zone):x.zone=zone/\x.spans = []/\ApartS x.fresh/\(∃ c∈l,c.zone.apex=zone/\x.signed∈c.zone.sets)/\∀ t,inS x.fresh t↔∃ c∈l,c.zone.apex=zone/\x.signed∈c.zone.sets/\c.frm<=t/\t<c.til:=by
 unfold pub pX at hx;obtain⟨s,hs,rfl⟩:=List.mem_map.1 hx;obtain⟨h1,h2⟩:=zS (Dj hl (zone:=zone) (s:=s));exact⟨rfl,rfl,h1,Wt.1 hs,λt=>(h2 t).trans GL⟩
end Np
section
open Go.RowKit Go.Sort Go.Shelf
section
variable {α:Type} [Inhabited α]
theorem Fb(enc:α->List Value)(k:Nat)(hk:∀ x,(enc x).length=k)(h0:0<k)(xs:List α):(flatK enc k xs.toArray).toList=(xs.map enc).flatten:=by
 have hlen:(xs.map enc).flatten.length=xs.length * k:=by
  clear h0
  induction xs with
  | nil=>simp
  | cons y ys ih=>rw[List.map_cons,List.flatten_cons,List.length_append,ih,hk,List.length_cons,Nat.succ_mul];omega
 apply List.ext_getElem?;intro t;by_cases ht:t<xs.length * k
 ·have h1:t / k<xs.length:=(Nat.div_lt_iff_lt_mul h0).2 ht;have h2:t % k<k:=Nat.mod_lt _ h0;have hr:(xs.map enc)[t / k]?=some (enc xs[t / k]):=by simp[h1]
  have hu:(enc xs[t / k])[t % k]?=some ((enc xs[t / k])[t % k]'(by rw[hk];exact h2)):=aQ _;have h3:=BM (xs.map enc) (t / k) (t % k) _ _ (by intro r hr;obtain⟨x,_,rfl⟩:=List.mem_map.1 hr;exact hk x) hr hu;rw[show t / k * k+t % k=t by rw[Nat.mul_comm];exact Nat.div_add_mod t k] at h3;rw[h3];have hs:t<(flatK enc k xs.toArray).size:=by simpa using ht
  rw[Array.getElem?_toList,pQ hs];congr 1;have h4:=get_flatK enc k xs.toArray t (by simpa using ht);rw[getElem!_pos (flatK enc k xs.toArray) t hs] at h4;rw[h4];rw[getElem!_pos xs.toArray (t / k) (by simpa using h1)];rw[getElem!_pos _ (t % k) (by rw[hk];exact h2)];simp
 ·rw[List.getElem?_eq_none (by simp;omega),List.getElem?_eq_none (by rw[hlen];omega)]
theorem UG(enc:α->List Value)(k:Nat)(hk:∀ x,(enc x).length=k)(h0:0<k){w:World}{g:Nat}{cur:Array Value}{e:TypeId}{xs:List α}(hb:w.heap[g]?=some (.cells cur e (0,0)))(ht:cur.toList.take (xs.length * k)=(xs.map enc).flatten):HoldsK enc k w g 0 xs.toArray:=by
 intro j hj;have hj':j<xs.length * k:=by simpa using hj
 refine⟨?_,by simp[World.frozen?,hb]⟩;have h1:(cur.toList.take (xs.length * k))[j]?=(flatK enc k xs.toArray).toList[j]?:=by rw[ht,Fb enc k hk h0]
 rw[List.getElem?_take_of_lt hj'] at h1;simp only[World.cell?,hb,Nat.zero_add,Option.isSome_none,Bool.false_eq_true,if_false];rw[<-Array.getElem?_toList,h1];have hs:j<(flatK enc k xs.toArray).size:=by simpa using hj'
 rw[Array.getElem?_toList,pQ hs,getElem!_pos _ j hs];rfl
theorem TR(enc:α->List Value)(k:Nat){w:World}{g n:Nat}{os:Array Obj}{cur:Array Value}{e:TypeId}{fr:Nat×Nat}(d:Array α)(hb:w.heap[g]?=some (.cells cur e fr)) :
 (sortWorldK enc k w g 0 n d os).heap[g]?=some (.cells (putCells id 0 (flatK enc k d) cur) e fr):=by
 have hl:g<w.heap.size:=(eQ.1 hb).1;unfold sortWorldK putRowK;rw[heap_grow_old _ _ (by simpa [putRow,mapBlock,Sort.ahead] using hl)];simp[putRow,mapBlock,Sort.ahead,Array.getElem?_modify,hb,onCells]
theorem SS(enc:α->List Value)(k:Nat){w:World}{g n:Nat}{os:Array Obj}(d:Array α):w.grownBy (sortWorldK enc k w g 0 n d os) (some g):=by
 unfold sortWorldK putRowK;refine⟨rfl,rfl,rfl,by simp,λq hq hne=>?_⟩;rw[heap_grow_old _ _ (by simpa using hq)]
 have:g≠q:=λe=>hne (by rw[e])
 simp[putRow,mapBlock,Sort.ahead,Array.getElem?_modify,this]
theorem Xb(enc:α->List Value)(k:Nat)(hk:∀ x,(enc x).length=k)(h0:0<k){w:World}{base g cap n:Nat}{e:TypeId}{os:Array Obj}{cur:Array Value}{xs ys:List α}(hl:ys.length=xs.length)(cW:base<=g)(hb:w.heap[g]?=some (.cells cur e (0,0)))
 (h1:xs.length<=cap) (h2:cap<=maxLen) (h3:cur.size=cap * k) :
 (sortWorldK enc k w g 0 n ys.toArray os).ownsRow base e k (.slice (some ⟨g,0,none⟩) xs.length cap) xs.length (ys.map enc).flatten:=by
 have vd:(ys.map enc).flatten.length=ys.length * k:=by
  rw[<-Fb enc k hk h0 ys];simp
 have ee:ys.length * k<=cur.size:=by rw[h3];exact Nat.mul_le_mul_right k (by omega)
 refine⟨by rw[vd,hl],.inr ⟨g,cap,_,rfl,cW,TR enc k _ hb,h1,h2,by simp[putCells,h3],?_⟩⟩;rw[<-hl];apply List.ext_getElem?;intro j;by_cases hj:j<ys.length * k
 ·rw[List.getElem?_take_of_lt hj,Array.getElem?_toList,<-Fb enc k hk h0 ys];have hs:j<(flatK enc k ys.toArray).size:=by simpa using hj
  rw[Array.getElem?_toList,pQ hs];have vl:j<cur.size:=by omega
  simp[putCells,hj,vl]
 ·rw[List.getElem?_take_eq_none (by omega),List.getElem?_eq_none (by rw[vd];omega)]
end
def eL(s:Np.Span):List Value:=[.int .i64 s.frm,.int .i64 s.til]
def aG(base:Nat)(w:World)(v:Value)(ps:List Np.Span):Prop:=w.ownsRow base 110 2 v ps.length (ps.map eL).flatten
theorem aG.form{base:Nat}{w:World}{v:Value}{ps:List Np.Span}(h:aG base w v ps):∃ A c,v = .slice A ps.length c:=qz h
theorem aG.alloc{base:Nat}{w:World}{v:Value}{ps:List Np.Span}(h:aG base w v ps)(o:Obj):aG base (w.alloc o) v ps:=World.ownsRow.alloc h o
theorem aG.keep{base:Nat}{w w':World}{v:Value}{ps:List Np.Span}(h:aG base w v ps)(hb:Below w.heap.size w w'):aG base w' v ps:=cM h (λg hg=>hb.block g (h.lt g hg).2)
theorem aG.nil(base:Nat)(w:World):aG base w (.slice none 0 0) []:=⟨by simp,.inl ⟨rfl,rfl⟩⟩
theorem aG.slr{base:Nat}{w:World}{v:Value}{ps:List Np.Span}(h:aG base w v ps)(hl:ps.length<=140737488355328):SlR cB 2 w w.heap.size v ps:=by
 refine Ai (sz:=2) (e:=110) (base:=base) eL (λ_ _=>rfl) ?_ hl (λx hx=>rfl)
 have:w.ownsRow base 110 2 v ps.length (ps.map eL).flatten:=h
 rwa [<-List.flatMap_def] at this
theorem Tryz.infoSpan:(prog.info? 110).map (λi=>(i.zero,i.size,i.bytes))=some (some (.agg #[.int .i64 0,.int .i64 0]),2,16):=by kernel_rfl
section
variable {ops:Array Oper} {rest:List Oper} {o:Oper} {a:Act} {Q:Exit->Act->World->Prop}
theorem Ds(w:World)(fJ:o.guard=none)(s x:Operand)(ho:o.op = .call { callee:=.builtin .append,args:=#[s,x],argTypes:=#[55,55] })
 (base:Nat) (v:Value) (ps:List Np.Span) (hs:a.eval s=v) (hown:aG base w v ps) (blk:Nat) (f u:Int) (hx:a.eval x = .slice (some ⟨blk,0,none⟩) 1 1) (hc:w.cell? ⟨blk,0,none⟩=some (.int .i64 f)) (aW:w.cell? ⟨blk,1,none⟩=some (.int .i64 u)) (hlen:ps.length<=100000) (cW:base<=w.heap.size)
 (h:∀ v' w',aG base w' v' (ps ++ [⟨f,u⟩])->Below base w w'->wpList prog ops Q rest (a.put o.dst v') w'):wpList prog ops Q (o::rest) a w:=by
 obtain⟨i0,hi,dI,bg,aO⟩:=info_parts Tryz.infoSpan;refine wpList_append_own_at w fJ s x 55 ho base 110 i0 (.agg #[.int .i64 0,.int .i64 0]) 2 16 underlying55 hi dI bg aO rfl (by decide) v ps.length (ps.map eL).flatten hs hown ⟨blk,0,none⟩ 1 1 [.int .i64 f,.int .i64 u] hx rfl ?_ (by simp[Value.oneCell']) (by unfold maxLen;omega) (by omega) cW ?_
 ·intro j y hj
  match j,hj with
  | 0,hj=>simp at hj;subst hj;simpa [Addr.add] using hc
  | 1,hj=>simp at hj;subst hj;simpa [Addr.add] using aW
  | j+2,hj=>simp at hj
 ·intro v' w' ho' hg _ _;refine h v' w' ?_ ((vQ _ _).grown hg cW (λk hk=>(hown.lt k hk).1));have e:(ps ++ [(⟨f,u⟩:Np.Span)]).length=ps.length+1:=by simp
  unfold aG;rw[e,List.map_append,List.flatten_append];exact ho'
end
theorem SA(f u:Int)(w:World) :
 Calls prog 177 #[.agg #[.int .i64 f,.int .i64 u]] w (aeJ w.heap.size w (.bool (decide (f<u)))):=by
 have HB:Hid (∀ o,Below w.heap.size w (w.alloc o)):=jq (λo=>(vQ _ w).alloc (bQ _) _);go_enter func177,ntmps177;go_wp2_with fail;go_ret;exact⟨rfl,HB.out _⟩
theorem YP(v:Value)(l:List Np.Span)(bn:l.length<=20000)(hf:∀ s∈l,s.frm<s.til)(w:World)(h:SlR cB 2 w w.heap.size v l) :
 Calls prog 176 #[v,.func (.func 177) #[] #[]] w λe w'=>∃ v',e = .returned v'/\aG w.heap.size w' v' l/\Below w.heap.size w w':=by
 have HD:=jq h;have HF:=jq hf;obtain⟨A,c,rfl,aW,bh⟩:=aj h;clear h hf;have HE:=jq (enters_of func177 (by kernel_rfl) rfl);go_enter func176,ntmps176;go_wp2_with fail;go_loopw [5,10] (λvo i wr=>∃ (k:Nat),k<=l.length/\i = .int .i64 k/\Hid (Below w.heap.size w wr)/\Hid (aG w.heap.size wr vo (l.take k))) (λ_ i _=>l.length - (intOf i).toNat)
 case atStart=>exact⟨0,jQ _,rfl,jq (vQ _ _),jq (aG.nil _ _)⟩
 case round=>
  obtain⟨k,hk,rfl,HB,HO⟩:=hrel;have al:=HB.out.size;by_cases aa:k<l.length
  ·obtain⟨x,ac⟩:∃ x,l[k]?=some x:=⟨_,aQ aa⟩;obtain⟨A',c',hA',_,_,aC⟩:=HD.out.keep bR HB.out
   cases hA'
   obtain⟨b,o,e,rfl,bq,hlen,hce,hR⟩:=aC k _ ac;obtain rfl:=hR;have h0:wr.cell? ⟨b,o+k * 2,none⟩=some (.int .i64 x.frm):=hce 0 _ rfl;have h1:wr.cell? ⟨b,o+k * 2+1,none⟩=some (.int .i64 x.til):=hce 1 _ rfl;have hd:decide (x.frm<x.til)=true:=uQ (HF.out x (gQ ac));have HT:Hid (l.take (k+1)=l.take k ++ [x]):=jq (by
    obtain⟨hl,he⟩:=cQ.1 ac;rw[fQ hl,he])
   have HL:Hid ((l.take k).length<=100000):=jq (by rw[List.length_take];omega);obtain⟨f,u⟩:=x;have bO:b<wr.heap.size:=by omega
   clear aC hce ac;dsimp only at h0 h1 hd;have ba:Hid (∀ o,Below w.heap.size w (wr.alloc o)):=jq (λo=>HB.out.alloc HB.out.size _);go_wp2_with (fail);refine (SA f u _).mono ?_;rintro e w2 ⟨rfl,ab⟩;rw[hd];have ai:Hid (Below w.heap.size w w2):=jq ((ba.out _).trans (ab.mono (by simp;omega)));have dh:Hid (aG w.heap.size w2 u5 (l.take k)):=jq ((HO.out.alloc _).keep ab);have c0:w2.cell? ⟨wr.heap.size,0,none⟩=some (.int .i64 f):=by rw[ab.cell (by simp)];simp[go_sem]
   have c1:w2.cell? ⟨wr.heap.size,1,none⟩=some (.int .i64 u):=by rw[ab.cell (by simp)];simp[go_sem]
   have aO:wr.heap.size<w2.heap.size:=by have:=ab.size;simp at this;omega
   clear ab;go_wp2_with (at_builtin;refine Ds _ rfl _ _ rfl w.heap.size _ (l.take k) rfl (dh.out.alloc _) w2.heap.size f u (by simp[go_sem]) (by simp[go_sem]) (by simp[go_sem]) HL.out (by simp;omega) ?_;intro v5 w5 fd aF;have H5:=jq (And.intro fd aF);clear fd aF);go_roundw
   case rel=>exact⟨k+1,by omega,by go_num,jq ((ai.out.alloc (by omega) _).trans H5.out.2),jq (by rw[HT.out];exact H5.out.1)⟩
   case measure=>simp[intOf] <;> omega
  ·have HE':Hid (l.take k=l):=jq (kQ (by omega));go_wp2_with fail;go_ret;exact⟨_,rfl,by have:=HO.out;rwa [HE'.out] at this,HB.out⟩
instance:Inhabited Np.Span:=⟨⟨0,0⟩⟩
theorem WQ(f u f' u':Int)(w:World) :
 Calls prog 178 #[.agg #[.int .i64 f,.int .i64 u],.agg #[.int .i64 f',.int .i64 u']] w λe w'=>e = .returned (.int .i64 (Np.b7 f f'))/\∃ q os,w'=grow (w.drewN q) os:=by
 go_enter func178,ntmps178;go_wp2_with (go_at_call 123;refine (xS _ _ _).mono ?_;rintro e w' ⟨rfl,rfl⟩);go_ret;exact⟨rfl,0,_,by rw[alloc_eq_grow,alloc_eq_grow,grow_grow];rfl⟩
theorem CM(x y:Np.Span):ltOf (λx y:Np.Span=>Np.b7 x.frm y.frm) x y=decide (x.frm<y.frm):=by
 unfold ltOf Np.b7;by_cases h1:x.frm<y.frm
 ·simp[h1]
 ·by_cases h2:y.frm<x.frm <;> simp[h1,h2]
theorem Zd:SWO (ltOf λx y:Np.Span=>Np.b7 x.frm y.frm) where
 irrefl x:=by rw[CM];simp
 trans x y z h1 h2:=by rw[CM] at *;simp at *;omega
 ntrans x y z h1 h2:=by rw[CM] at *;simp at *;omega
theorem YY{d d':Array Np.Span}(hp:PermIn 0 d.size d d')(hs:SortedIn (ltOf λx y:Np.Span=>Np.b7 x.frm y.frm) 0 d.size d'):d'.toList.Perm d.toList/\d'.toList.Pairwise λa b=>a.frm<=b.frm:=by
 obtain⟨h1,_,h3⟩:=hp;refine⟨?_,?_⟩
 ·have e1:d'.extract 0 d.size=d':=by rw[<-h1];simp
  have e2:d.extract 0 d.size=d:=by simp
  rwa [e1,e2] at h3
 ·rw[List.pairwise_iff_getElem];intro i j hi hj dz
  have:=hs i j (jQ _) dz (by rw[<-h1];simpa using hj)
  rw[CM,getElem!_pos d' i (by simpa using hi),getElem!_pos d' j (by simpa using hj)] at this;simpa using this
theorem N6(fid:FuncId)(TT:∀ (f u f' u':Int) (w:World),Calls prog fid #[.agg #[.int .i64 f,.int .i64 u],.agg #[.int .i64 f',.int .i64 u']] w λe w'=>e = .returned (.int .i64 (Np.b7 f f'))/\∃ q os,w'=grow (w.drewN q) os)(eg:∀ args w,(callFunc fid args).run prog w = .ok (.enter fid args) w)(base:Nat)(v:Value)(xs:List Np.Span)(w:World)(hown:aG base w v xs)(hl:xs.length<=100000) :
 Calls prog 121 #[v,.func (.func fid) #[] #[]] w λe w'=>e = .returned (.tuple #[])/\∃ ys:List Np.Span,ys.Perm xs/\ys.Pairwise (λa b=>a.frm<=b.frm)/\aG base w' v ys/\w.grownBy w' v.ownBlock:=by
 have jo:w.ownsRow base 110 2 v xs.length (xs.map eL).flatten:=hown;rcases jo.2 with ⟨rfl,h0⟩ | ⟨g,cap,cur,rfl,cW,hb,h1,h2,h3,h4⟩
 ·have:xs = []:=rQ h0
  subst this;refine (AnyF.slices_SortFunc_none Tryz.sortSpan none 0 _ w).mono ?_;intro e w' hh;obtain⟨rfl,rfl⟩:=hh;exact⟨rfl,[],List.Perm.refl _,List.Pairwise.nil,hown,⟨rfl,rfl,rfl,bQ _,λ_ _ _=>rfl⟩⟩
 have aE:∀ w,(isAgg 110).run prog w = .ok true w:=λw=>by kernel_rfl
 have zE:∀ w,(Go.sizeOf 110).run prog w = .ok 2 w:=λw=>by kernel_rfl
 have hH:=UG eL 2 (λ_=>rfl) (by omega) hb h4;have yD:CmpLays prog fid #[] eL 2 (λx y:Np.Span=>Np.b7 x.frm y.frm) g 0 xs.toArray.size w:=λm os dk _ x y=>TT x.frm x.til y.frm y.til _;have Ce:=AnyQ.slices_SortFunc Tryz.sortSpan 2 aE zE eL (λ_=>rfl) (λx u hu=>by simp only[eL,List.mem_cons,Qh,or_false] at hu;rcases hu with rfl | rfl <;> rfl) (λx y:Np.Span=>Np.b7 x.frm y.frm) Zd fid #[] g 0 cap xs.toArray w eg yD hH (eQ.1 hb).1 (by simp;omega);refine Ce.mono λe w' ⟨he,d',n,os,hp,hs,hw⟩=>⟨he,d'.toList,?_⟩;obtain⟨p1,p2⟩:=YY hp hs;have hlen:d'.toList.length=xs.length:=by simpa using p1.length_eq
 refine⟨by simpa using p1,p2,?_,?_⟩
 ·subst hw;unfold aG;rw[hlen]
  have:=Xb eL 2 (λ_=>rfl) (by omega) (n:=n) (os:=os) hlen cW hb h1 h2 h3
  simpa using this
 ·subst hw;exact SS eL 2 _
theorem YW(base:Nat)(v:Value)(xs:List Np.Span)(w:World)(hown:aG base w v xs)(hl:xs.length<=100000) :
 Calls prog 121 #[v,.func (.func 178) #[] #[]] w λe w'=>e = .returned (.tuple #[])/\∃ ys:List Np.Span,ys.Perm xs/\ys.Pairwise (λa b=>a.frm<=b.frm)/\aG base w' v ys/\w.grownBy w' v.ownBlock:=
 N6 _ WQ (enters_of func178 (by kernel_rfl) rfl) base v xs w hown hl
theorem Oq:∀ (l o:List Np.Span),(l.foldl Np.fm o).length<=o.length+l.length:=by
 intro l
 induction l with
 | nil=>intro o;simp
 | cons s l ih=>
  intro o;have h1:(Np.fm o s).length<=o.length+1:=by
   rcases List.eq_nil_or_concat o with rfl | ⟨q,p,rfl⟩
   ·simp[Np.Oo]
   ·rw[List.concat_eq_append,Np.Hr];split <;> simp
  have:=ih (Np.fm o s)
  rw[List.foldl_cons,List.length_cons];omega
theorem Sr(q:List Np.Span)(p:Np.Span)(u:Int):(((q ++ [p]).map eL).flatten).set (q.length * 2+1) (.int .i64 u)=((q ++ [(⟨p.frm,u⟩:Np.Span)]).map eL).flatten:=by
 have hl:((q.map eL).flatten).length=q.length * 2:=by rw[<-List.flatMap_def];induction q with | nil=>rfl | cons a q ih=>simp[List.flatMap_cons,ih,eL];omega
 rw[List.map_append,List.flatten_append,List.map_append,List.flatten_append,List.set_append_right _ _ (by rw[hl];omega),hl];congr 1;rw[show q.length * 2+1 - q.length * 2=1 by omega];rfl
theorem Sq(q:List Np.Span)(p:Np.Span)(j:Nat):(((q ++ [p]).map eL).flatten)[q.length * 2+j]?=(eL p)[j]?:=by
 have hl:((q.map eL).flatten).length=q.length * 2:=by rw[<-List.flatMap_def];induction q with | nil=>rfl | cons a q ih=>simp[List.flatMap_cons,ih,eL];omega
 rw[List.map_append,List.flatten_append,oQ (by rw[hl];omega),hl];simp
theorem Zv(v:Value)(l:List Np.Span)(bn:l.length<=20000)(w:World)(h:SlR cB 2 w w.heap.size v l) :
 Calls prog 179 #[v] w (λe w'=>∃ v',e = .returned v'/\aG w.heap.size w' v' (l.foldl Np.fm [])/\Below w.heap.size w w'):=by
 have HD:=jq h;obtain⟨A,c,rfl,aW,bh⟩:=aj h;clear h;have HN:Hid (∀ k,((l.take k).foldl Np.fm []).length<=k):=jq (λk=>yQ (Oq _ _) (by simp;omega));go_enter func179,ntmps179;go_wp2_with fail;go_loopw [3,9] (λvo i wr=>∃ (k:Nat),k<=l.length/\i = .int .i64 k/\Hid (Below w.heap.size w wr)/\Hid (aG w.heap.size wr vo ((l.take k).foldl Np.fm []))) (λ_ i _=>l.length - (intOf i).toNat)
 case atStart=>exact⟨0,jQ _,rfl,jq (vQ _ _),jq (aG.nil _ _)⟩
 case round=>
  obtain⟨k,hk,rfl,HB,HO⟩:=hrel;have al:=HB.out.size;by_cases aa:k<l.length
  ·obtain⟨x,ac⟩:∃ x,l[k]?=some x:=⟨_,aQ aa⟩;obtain⟨A',c',hA',_,_,aC⟩:=HD.out.keep bR HB.out
   cases hA'
   obtain⟨b,o,e,rfl,bq,hlen,hce,hR⟩:=aC k _ ac;obtain rfl:=hR;have h0:wr.cell? ⟨b,o+k * 2,none⟩=some (.int .i64 x.frm):=hce 0 _ rfl;have h1:wr.cell? ⟨b,o+k * 2+1,none⟩=some (.int .i64 x.til):=hce 1 _ rfl;have HT:Hid ((l.take (k+1)).foldl Np.fm []=Np.fm ((l.take k).foldl Np.fm []) x):=jq (by
    obtain⟨hl,he⟩:=cQ.1 ac;rw[fQ hl,he,List.foldl_append];rfl)
   have bO:b<wr.heap.size:=by omega
   have ba:Hid (∀ o,Below w.heap.size w (wr.alloc o)):=jq (λo=>HB.out.alloc HB.out.size _);have vv:=HN.out k;obtain⟨fr,ti⟩:=x;clear aC hce ac;dsimp only at h0 h1;obtain⟨ol,qi⟩:=abK ((l.take k).foldl Np.fm []);rw[qi] at HO HT vv;clear qi;rcases List.eq_nil_or_concat ol with rfl | ⟨q,p,rfl⟩
   ·obtain⟨A0,c0,rfl⟩:=aG.form HO.out;go_wp2_with fail;go_quiet (fail);obtain⟨w2,ag⟩:=abK ((wr.alloc (.cells #[.int .i64 fr,.int .i64 ti] 110)).drewN nq);have aO:w2.heap.size=wr.heap.size+1:=by rw[<-ag];simp
    have c0:w2.cell? ⟨wr.heap.size,0,none⟩=some (.int .i64 fr):=by rw[<-ag];simp[go_sem]
    have c1:w2.cell? ⟨wr.heap.size,1,none⟩=some (.int .i64 ti):=by rw[<-ag];simp[go_sem]
    have gP:Below wr.heap.size wr w2:=by rw[<-ag];exact below_drewN ((vQ _ _).alloc (bQ _) _) _
    have ai:Hid (Below w.heap.size w w2):=jq (HB.out.trans (gP.mono al));have dh:Hid (aG w.heap.size w2 _ []):=jq (HO.out.keep gP);rw[ag];clear ag gP;go_wp2_with (at_builtin;refine Ds _ rfl _ _ rfl w.heap.size _ [] rfl (dh.out.alloc _) w2.heap.size fr ti (by simp[go_sem]) (by simp[go_sem]) (by simp[go_sem]) (by simp) (by simp;omega) ?_;intro v5 w5 fd aF;have H5:=jq (And.intro fd aF);clear fd aF);go_roundw
    case rel=>exact⟨k+1,by omega,by go_num,jq ((ai.out.alloc (by omega) _).trans H5.out.2),jq (by rw[HT.out];exact H5.out.1)⟩
    case measure=>simp[intOf] <;> omega
   ·rw[List.concat_eq_append] at HO HT vv;have hown:wr.ownsRow w.heap.size 110 2 u3 (q ++ [p]).length ((q ++ [p]).map eL).flatten:=HO.out;have Iu:=jq (Sq q p);have PD:=jq (Sr q p);have PV:Hid ((q ++ [p]).length<=100000):=jq (by omega);have lZ:(q ++ [p]).length=q.length+1:=by simp
    have LP:q.length+1<=k:=by rw[lZ] at vv;exact vv
    clear vv;rcases hown.2 with ⟨_,SU⟩ | ⟨g,cap,cur,rfl,cW,hb,bG,ct,_,_⟩
    ·rw[lZ] at SU;omega
    have gq:=jq hown;have lg:g<wr.heap.size:=(eQ.1 hb).1;clear hb hown;obtain⟨M,hM⟩:=abK ((q ++ [p]).length);obtain⟨m,hm⟩:=abK q.length;have g0:wr.cell? ⟨g,m * 2,none⟩=some (.int .i64 p.frm):=by
     rw[<-hm,gq.out.cellAt _ (by rw[lZ];omega)]
     have:=Iu.out 0
     rwa [Nat.add_zero] at this
    have g1:wr.cell? ⟨g,m * 2+1,none⟩=some (.int .i64 p.til):=by
     rw[<-hm,gq.out.cellAt _ (by rw[lZ];omega)];exact Iu.out 1
    have gf:wr.frozen? ⟨g,m * 2+1,none⟩=false:=gq.out.frozenAt _;rw[lZ,hm] at hM;have hq:IntKind.i64.wrap ((M:Int) - 1)=(m:Int):=by rw[show (M:Int) - 1=m by omega];simp[IntKind.wrap,IntKind.bits,IntKind.signed];omega
    have hM0:decide (0<(M:Int))=true:=acK;have aeZ:decide (0<M)=true:=acK;have hmM:m<M:=by omega
    have anJ:(m:Int)<(M:Int):=by omega
    have iu:(0:Int)<=(m:Int):=by omega
    have HM:Hid ((q ++ [p]).length=M):=jq (by rw[lZ,hm,hM]);rw[HM.out] at bG;have HM2:=jq hM;have HQ:=jq hm;have Jl:=jq (Np.Hr q p ⟨fr,ti⟩);clear hM hm lZ;rw[HM.out];by_cases ee:fr<=p.til
    ·have hd:decide (fr<=p.til)=true:=uQ ee;have lO:Hid ((l.take (k+1)).foldl Np.fm []=q ++ [⟨p.frm,max p.til ti⟩]):=jq (by rw[HT.out,Jl.out,Qb ee]);clear ee;go_wp2_with fail;go_quiet (fail);obtain⟨w2,ag⟩:=abK ((wr.alloc (.cells #[.int .i64 fr,.int .i64 ti] 110)).drewN nq);have aO:w2.heap.size=wr.heap.size+1:=by rw[<-ag];simp
     have c0:w2.cell? ⟨wr.heap.size,0,none⟩=some (.int .i64 fr):=by rw[<-ag];simp[go_sem]
     have c1:w2.cell? ⟨wr.heap.size,1,none⟩=some (.int .i64 ti):=by rw[<-ag];simp[go_sem]
     have gP:Below wr.heap.size wr w2:=by rw[<-ag];exact below_drewN ((vQ _ _).alloc (bQ _) _) _
     have ai:Hid (Below w.heap.size w w2):=jq (HB.out.trans (gP.mono al));have dh:Hid (aG w.heap.size w2 (.slice (some ⟨g,0,none⟩) M cap) (q ++ [p])):=jq (HM.out ▸ HO.out.keep gP);rw[ag];clear ag;have d1:w2.cell? ⟨g,m * 2+1,none⟩=some (.int .i64 p.til):=(gP.cell lg).trans g1;have df:w2.frozen? ⟨g,m * 2+1,none⟩=false:=(gP.frozen lg).trans gf;clear gP g0 g1 gf;go_wp2_with fail;go_region;have cP:Hid (aG w.heap.size (w2.setCell ⟨g,m * 2+1,none⟩ (.int .i64 (max p.til ti))).drew (.slice (some ⟨g,0,none⟩) M cap) (q ++ [⟨p.frm,max p.til ti⟩])/\Below w.heap.size w (w2.setCell ⟨g,m * 2+1,none⟩ (.int .i64 (max p.til ti))).drew):=jq (by
      have h1:w2.ownsRow w.heap.size 110 2 (.slice (some ⟨g,0,none⟩) (q ++ [p]).length cap) (q ++ [p]).length ((q ++ [p]).map eL).flatten:=by
       have:=dh.out
       rw[<-HM.out] at this;exact this
      obtain⟨h2,h3⟩:=World.ownsRow.stored h1 (m * 2+1) (.int .i64 (max p.til ti));refine⟨aG.keep (w:=w2.setCell ⟨g,m * 2+1,none⟩ (.int .i64 (max p.til ti))) ?_ (vQ _ _).drew,(ai.out.grown h3 ai.out.size (λk hk=>by simp at hk;omega)).drew⟩;rw[<-HQ.out] at h2 |-;rw[PD.out] at h2;have e1:(q ++ [(⟨p.frm,max p.til ti⟩:Np.Span)]).length=(q ++ [p]).length:=by simp
      unfold aG;rw[e1,<-HM.out];exact h2)
     go_wp2_with fail;go_roundw
     case rel=>exact⟨k+1,by omega,by go_num,jq cP.out.2,jq (by rw[lO.out];exact cP.out.1)⟩
     case measure=>simp[intOf] <;> omega
    ·have hd:decide (fr<=p.til)=false:=tQ ee;have lO:Hid ((l.take (k+1)).foldl Np.fm []=q ++ [p] ++ [⟨fr,ti⟩]):=jq (by rw[HT.out,Jl.out,Qc ee]);clear ee;go_wp2_with fail;go_quiet (fail);obtain⟨w2,ag⟩:=abK ((wr.alloc (.cells #[.int .i64 fr,.int .i64 ti] 110)).drewN nq);have aO:w2.heap.size=wr.heap.size+1:=by rw[<-ag];simp
     have c0:w2.cell? ⟨wr.heap.size,0,none⟩=some (.int .i64 fr):=by rw[<-ag];simp[go_sem]
     have c1:w2.cell? ⟨wr.heap.size,1,none⟩=some (.int .i64 ti):=by rw[<-ag];simp[go_sem]
     have gP:Below wr.heap.size wr w2:=by rw[<-ag];exact below_drewN ((vQ _ _).alloc (bQ _) _) _
     have ai:Hid (Below w.heap.size w w2):=jq (HB.out.trans (gP.mono al));have dh:Hid (aG w.heap.size w2 (.slice (some ⟨g,0,none⟩) M cap) (q ++ [p])):=jq (HM.out ▸ HO.out.keep gP);rw[ag];clear ag;clear gP g0 g1 gf;go_wp2_with (at_builtin;refine Ds _ rfl _ _ rfl w.heap.size _ (q ++ [p]) rfl (dh.out.alloc _) w2.heap.size fr ti (by simp[go_sem]) (by simp[go_sem]) (by simp[go_sem]) PV.out (by simp;omega) ?_;intro v5 w5 fd aF;have H5:=jq (And.intro fd aF);clear fd aF);go_roundw
     case rel=>exact⟨k+1,by omega,by go_num,jq ((ai.out.alloc (by omega) _).trans H5.out.2),jq (by rw[lO.out];exact H5.out.1)⟩
     case measure=>simp[intOf] <;> omega
  ·have HE':Hid (l.take k=l):=jq (kQ (by omega));go_wp2_with fail;go_ret;exact⟨_,rfl,by have:=HO.out;rwa [HE'.out] at this,HB.out⟩
def Np.xK(s:Np.Span):Prop:=0<=s.frm/\s.frm<s.til/\s.til<=20000000
theorem aG.weak{base base':Nat}{w:World}{v:Value}{ps:List Np.Span}(h:aG base w v ps)(hb:base'<=base):aG base' w v ps:=by
 refine⟨h.1,?_⟩;rcases h.2 with h2 | ⟨g,cap,cur,h1,h2,h3⟩
 ·exact .inl h2
 ·exact .inr ⟨g,cap,cur,h1,yQ hb h2,h3⟩
theorem tU(l:List Np.Span):(Np.fX l).length<=l.length:=by
 have:=Oq (l.mergeSort λa b=>decide (a.frm<=b.frm)) []
 simpa [Np.fX] using this
theorem MQ(v:Value)(l:List Np.Span)(bn:l.length<=20000)(hin:∀ s∈l,Np.xK s)(w:World)(h:SlR cB 2 w w.heap.size v l) :
 Calls prog 109 #[v] w (λe w'=>∃ v',e = .returned (.tuple #[v',.int .i64 0])/\aG w.heap.size w' v' (Np.fX l)/\Below w.heap.size w w'):=by
 have HD:=jq h;have kZ:=jq hin;obtain⟨A,c,rfl,aW,bh⟩:=aj h;clear h hin;have ee:decide (20000<(l.length:Int))=false:=acJ;go_enter func109,ntmps109;go_wp2_with fail;go_loopw [12] (λi wr=>∃ (k:Nat),k<=l.length/\i = .int .i64 k/\Hid (Below w.heap.size w wr)) (λi _=>l.length - (intOf i).toNat)
 case atStart=>exact⟨0,jQ _,rfl,jq (vQ _ _)⟩
 case round=>
  obtain⟨k,hk,rfl,HB⟩:=hrel;have al:=HB.out.size;by_cases aa:k<l.length
  ·obtain⟨x,ac⟩:∃ x,l[k]?=some x:=⟨_,aQ aa⟩;obtain⟨A',c',hA',_,_,aC⟩:=HD.out.keep bR HB.out
   cases hA'
   obtain⟨b,o,e,rfl,bq,hlen,hce,hR⟩:=aC k _ ac;obtain rfl:=hR;have h0:wr.cell? ⟨b,o+k * 2,none⟩=some (.int .i64 x.frm):=hce 0 _ rfl;have h1:wr.cell? ⟨b,o+k * 2+1,none⟩=some (.int .i64 x.til):=hce 1 _ rfl;obtain⟨i1,i2,i3⟩:=kZ.out x (gQ ac);have fS:decide (x.frm<0)=false:=acJ;have iO:decide (x.til<x.frm)=false:=acJ;have FV:decide (20000000<x.til)=false:=acJ;have ba:Hid (∀ o,Below w.heap.size w (wr.alloc o)):=jq (λo=>HB.out.alloc HB.out.size _);have bO:b<wr.heap.size:=by omega
   obtain⟨fr,ti⟩:=x;clear aC hce ac i1 i2 i3;dsimp only at h0 h1 fS iO FV;go_wp2_with fail;go_roundw
   case rel=>exact⟨k+1,by omega,by go_num,jq (ba.out _)⟩
   case measure=>simp[intOf] <;> omega
  ·have gI:=jq (HD.out.keep bR HB.out);go_wp2_with fail;refine (YP _ l bn (λs hs=>(kZ.out s hs).2.1) _ ((gI.out.more dZ al))).mono ?_;rintro e w2 ⟨v2,rfl,gh,ab⟩;have dh:=jq gh;have ai:=jq (HB.out.trans (ab.mono al));have aO:wr.heap.size<=w2.heap.size:=ab.size;clear gh ab;obtain⟨A2,c2,rfl⟩:=dh.out.form;go_wp2_with fail;refine (YW wr.heap.size _ l _ dh.out (by omega)).mono ?_;rintro e w3 ⟨rfl,ys,hp,hs,lE,lu⟩;have mb:ys.length=l.length:=hp.length_eq;have HY:Hid (ys.foldl Np.fm []=Np.fX l):=jq (Np.WS (λs hs=>(kZ.out s hs).2.1) hp hs);have ig:=jq lE;have ah:Below wr.heap.size w2 w3:=(vQ _ _).grown lu aO (λk hk=>(World.ownsRow.lt dh.out k hk).1);have aB:=jq (ai.out.trans (ah.mono al));clear hp hs lE lu;go_wp2_with fail;refine (Zv _ ys (by omega) _ (ig.out.slr (by omega))).mono ?_;rintro e w4 ⟨v4,rfl,me,aq⟩;have HE:=jq (And.intro me (aB.out.trans (aq.mono aB.out.size)));clear me aq;go_wp2_with fail;go_ret2;exact⟨_,rfl,by have:=HE.out.1.weak aB.out.size;rw[HY.out] at this;exact this,HE.out.2⟩
structure SpBox(W:World)(b:Nat)(f u:Int):Prop where
 c0:W.cell? ⟨b,0,none⟩=some (.int .i64 f)
 c1:W.cell? ⟨b,1,none⟩=some (.int .i64 u)
 f0:W.frozen? ⟨b,0,none⟩=false
 f1:W.frozen? ⟨b,1,none⟩=false
 lt:b<W.heap.size
theorem SpBox.keep{W W':World}{b:Nat}{f u:Int}(h:SpBox W b f u){B:Nat}(hb:Below B W W')(hB:b<B):SpBox W' b f u:=
 ⟨(hb.cell hB).trans h.c0,(hb.cell hB).trans h.c1,(hb.frozen hB).trans h.f0,(hb.frozen hB).trans h.f1,lQ h.lt hb.size⟩
theorem aG.other{base:Nat}{W:World}{v:Value}{ps:List Np.Span}(h:aG base W v ps){p:Addr}(hp:p.block<base)(u:Value):aG base (W.setCell p u) v ps:=ownsRow_setCell_below h hp u
structure SpAt(W:World)(b j:Nat)(f u:Int):Prop where
 c0:W.cell? ⟨b,j,none⟩=some (.int .i64 f)
 c1:W.cell? ⟨b,j+1,none⟩=some (.int .i64 u)
theorem SpAt.keep{W W':World}{b j:Nat}{f u:Int}(h:SpAt W b j f u){B:Nat}(hb:Below B W W')(hB:b<B):SpAt W' b j f u:=⟨(hb.cell hB).trans h.c0,(hb.cell hB).trans h.c1⟩
theorem vW{W:World}{B b o n c k:Nat}{l:List Np.Span}{x:Np.Span}(h:SlR cB 2 W B (.slice (some ⟨b,o,none⟩) n c) l)(hx:l[k]?=some x):b<B/\SpAt W b (o+k * 2) x.frm x.til:=by
 obtain⟨A',c',hA',_,_,aC⟩:=h
 cases hA'
 obtain⟨b',o',e,hA,bq,hlen,hce,hR⟩:=aC k _ hx
 cases hA
 obtain rfl:=hR;exact⟨bq,hce 0 _ rfl,hce 1 _ rfl⟩
theorem Aj{α:Type}{R:afQ α}{sz:Nat}{W:World}{B:Nat}{A:Option Addr}{n c k:Nat}{l:List α}(h:SlR R sz W B (.slice A n c) l)(hk:k<l.length):∃ b o,A=some ⟨b,o,none⟩:=by
 obtain⟨A',c',hA',_,_,aC⟩:=h
 cases hA'
 obtain⟨b',o',e,hA,_⟩:=aC k _ (aQ hk);exact⟨b',o',hA⟩
structure WithK(X:Nat)(w W:World)(v:Value)(oo:List Np.Span)(fr ti:Int)(b j:Nat)(xf xu:Int):Prop where
 below:Below X w W
 own:aG (X+1) W v oo
 box:SpBox W X fr ti
 at_:SpAt W b j xf xu
theorem WithK.keep{X:Nat}{w W W':World}{v:Value}{oo:List Np.Span}{fr ti:Int}{b j:Nat}{xf xu:Int}(h:WithK X w W v oo fr ti b j xf xu)(hb:Below W.heap.size W W')(dW:b<X):WithK X w W' v oo fr ti b j xf xu:=
 ⟨h.below.trans (hb.mono (Nat.le_of_lt h.box.lt)),h.own.keep hb,h.box.keep hb h.box.lt,h.at_.keep hb (Nat.lt_trans dW h.box.lt)⟩
end
namespace Np
def fi(c:Copy):Int×List UInt8:=(c.host,c.zone.apex)
def eM(l:List Copy)(p:Int×List UInt8):List Span:=(l.filter λc=>decide (fi c=p)).map iY
theorem BQ(l:List Copy)(c:Copy)(p:Int×List UInt8):eM (l ++ [c]) p=if fi c=p then eM l p ++ [iY c] else eM l p:=by
 unfold eM;rw[List.filter_append];by_cases h:fi c=p
 ·simp[h]
 ·simp[h]
theorem KF{l:List Copy}{p:Int×List UInt8}(h:∀ c∈l,fi c≠p):eM l p = []:=by
 unfold eM;rw[List.filter_eq_nil_iff.2 (λc hc=>by simpa using h c hc)];rfl
structure GrpI(kvs:List ((Int×List UInt8)×List Span))(l:List Copy):Prop where
 nodup:(kvs.map (·.1)).Nodup
 each:∀ x∈kvs,x.2=eM l x.1
 all:∀ c∈l,fi c∈kvs.map (·.1)
theorem GrpI.nil:GrpI [] []:=⟨by simp,λx hx=>(by cases hx),λc hc=>(by cases hc)⟩
theorem GrpI.old{kvs:List ((Int×List UInt8)×List Span)}{l:List Copy}(h:GrpI kvs l){c:Copy}{j:Nat}{g:List Span}(hj:kvs[j]?=some (fi c,g)):GrpI (kvs.set j (fi c,g ++ [iY c])) (l ++ [c]):=by
 obtain⟨hl,he⟩:=cQ.1 hj;have hk:(kvs.set j (fi c,g ++ [iY c])).map (·.1)=kvs.map (·.1):=by
  rw[List.map_set];apply List.ext_getElem?;intro i;rw[List.getElem?_set];split
  ·rename_i e;subst e;rw[List.length_map,Qb hl,List.getElem?_map,hj];rfl
  ·rfl
 have hg:=h.each _ (gQ hj);refine⟨by rw[hk];exact h.nodup,λx hx=>?_,λd hd=>?_⟩
 ·obtain⟨i,hi,rfl⟩:=nQ.1 hx;rw[List.length_set] at hi;rw[List.getElem_set];split
  ·rename_i e;subst e;rw[BQ,Qb rfl];simp only at hg |-;rw[<-hg]
  ·rename_i e;rw[BQ,Qc]
   ·exact h.each _ (List.getElem_mem hi)
   ·intro e2;apply e;have h1:(kvs.map (·.1))[j]'(by simpa using hl)=(kvs.map (·.1))[i]'(by simpa using hi):=by simp[he,e2]
    exact (List.getElem_inj (h₀:=by simpa using hl) (h₁:=by simpa using hi) h.nodup).1 h1
 ·rw[hk];rcases List.mem_append.1 hd with hd | hd
  ·exact h.all d hd
  ·rw[List.mem_singleton] at hd;subst hd;exact List.mem_map.2 ⟨_,gQ hj,rfl⟩
theorem GrpI.new{kvs:List ((Int×List UInt8)×List Span)}{l:List Copy}(h:GrpI kvs l){c:Copy}(hn:fi c∉kvs.map (·.1)):GrpI (kvs ++ [(fi c,[iY c])]) (l ++ [c]):=by
 have h0:eM l (fi c) = []:=KF λd hd e=>hn (by rw[<-e];exact h.all d hd);refine⟨?_,λx hx=>?_,λd hd=>?_⟩
 ·rw[List.map_append,List.nodup_append];refine⟨h.nodup,by simp,λa ha b hb e=>?_⟩;simp at hb;subst hb;subst e;exact hn ha
 ·rcases List.mem_append.1 hx with hx | hx
  ·rw[BQ,Qc]
   ·exact h.each x hx
   ·intro e;exact hn (by rw[e];exact List.mem_map.2 ⟨x,hx,rfl⟩)
  ·rw[List.mem_singleton] at hx;subst hx;rw[BQ,Qb rfl,h0];rfl
 ·rw[List.map_append];rcases List.mem_append.1 hd with hd | hd
  ·exact List.mem_append_left _ (h.all d hd)
  ·rw[List.mem_singleton] at hd;subst hd;simp
def mF(a b:Span):Prop:=a.frm<b.til/\b.frm<a.til
theorem mF.symm{a b:Span}(h:mF a b):mF b a:=⟨h.2,h.1⟩
def ET(m:List Span):Prop:=∀ i (h:i+1<m.length),m[i].til<=m[i+1].frm
theorem Yq{m l:List Span}(hp:m.Perm l)(hs:m.Pairwise λa b=>a.frm<=b.frm)(hf:∀ s∈l,s.frm<s.til):ET m↔l.Pairwise λa b=>¬ mF a b:=by
 rw[<-hp.pairwise_iff (R:=λa b=>¬ mF a b) (λ{a b} h k=>h k.symm)];have Le:∀ s∈m,s.frm<s.til:=λs hs=>hf s (hp.mem_iff.1 hs);clear hp hf;constructor
 ·intro h;rw[List.pairwise_iff_getElem];intro i j hi hj dz ho;have key:∀ d,∀ (h1:i+d+1<m.length),(m[i]'(by omega)).til<=(m[i+d+1]'h1).frm:=by
   intro d
   induction d with
   | zero=>intro h1;exact h i h1
   | succ d ih=>
    intro h1;have h2:=ih (by omega);have h3:=h (i+d+1) (by omega);have h4:=Le _ (List.getElem_mem (show i+d+1<m.length by omega));have e:i+(d+1)+1=i+d+1+1:=by omega
    simp only[e];omega
  obtain⟨d,rfl⟩:∃ d,j=i+d+1:=⟨j - i - 1,by omega⟩
  have:=key d hj
  have:=ho.2
  omega
 ·intro h i hi;rw[List.pairwise_iff_getElem] at h hs;have h1:=h i (i+1) (by omega) hi (by omega);have h2:=hs i (i+1) (by omega) hi (by omega);have h3:=Le _ (List.getElem_mem hi);unfold mF at h1;omega
theorem SN(l:List Copy):(l.Pairwise λc d=>¬ ja c d)↔∀ p,(eM l p).Pairwise λa b=>¬ mF a b:=by
 induction l with
 | nil=>simp[eM]
 | cons c l ih=>
  rw[List.pairwise_cons,ih];constructor
  ·rintro⟨h1,h2⟩ p;by_cases hp:fi c=p
   ·have e:eM (c::l) p=iY c::eM l p:=by unfold eM;simp[hp]
    rw[e,List.pairwise_cons];refine⟨λs hs=>?_,h2 p⟩;obtain⟨d,hd,rfl⟩:=List.mem_map.1 hs;obtain⟨fS,iO⟩:=List.mem_filter.1 hd;have hk:fi d=fi c:=by rw[hp];simpa using iO
    intro ho;unfold fi at hk;simp only[Prod.mk.injEq] at hk;exact h1 d fS ⟨hk.1.symm,hk.2.symm,ho.1,ho.2⟩
   ·have e:eM (c::l) p=eM l p:=by unfold eM;simp[hp]
    rw[e];exact h2 p
  ·intro h;refine⟨λd hd im=>?_,λp=>?_⟩
   ·have h1:=h (fi c);have e:eM (c::l) (fi c)=iY c::eM l (fi c):=by unfold eM;simp
    rw[e,List.pairwise_cons] at h1;refine h1.1 (iY d) (List.mem_map.2 ⟨d,List.mem_filter.2 ⟨hd,?_⟩,rfl⟩) ⟨im.2.2.1,im.2.2.2⟩;unfold fi;simp[im.1,im.2.1]
   ·have h1:=h p;by_cases hp:fi c=p
    ·have e:eM (c::l) p=iY c::eM l p:=by unfold eM;simp[hp]
     rw[e,List.pairwise_cons] at h1;exact h1.2
    ·have e:eM (c::l) p=eM l p:=by unfold eM;simp[hp]
     rwa [e] at h1
theorem GrpI.ok{kvs:List ((Int×List UInt8)×List Span)}{l:List Copy}(h:GrpI kvs l):(l.Pairwise λc d=>¬ ja c d)↔∀ x∈kvs,x.2.Pairwise λa b=>¬ mF a b:=by
 rw[SN];constructor
 ·intro h1 x hx;rw[h.each x hx];exact h1 _
 ·intro h1 p;by_cases hp:p∈kvs.map (·.1)
  ·obtain⟨x,hx,rfl⟩:=List.mem_map.1 hp;rw[<-h.each x hx];exact h1 x hx
  ·rw[KF λc hc e=>hp (by rw[<-e];exact h.all c hc)];exact List.Pairwise.nil
end Np
section
open Go.RowKit Go.MapKept Go.Shelf
theorem Wo{α β:Type}[BEq α][LawfulBEq α](l:List (α×β))(p:α)(h:l.lookup p=none):p∉l.map (·.1):=by
 induction l with
 | nil=>simp
 | cons z zs ih=>
  rw[List.lookup_cons] at h
  cases hb:(p == z.1) with
  | true=>rw[hb] at h;simp at h
  | false=>
   rw[hb] at h;have hne:p≠z.1:=by simpa using hb
   simp only[List.map_cons,List.mem_cons,not_or];exact⟨hne,ih h⟩
abbrev ep:=(Int×List UInt8)×List Np.Span×Value
structure MapX(base r:Nat)(xs:List ep)(w:World):Prop where
 map:mE r (xs.map λx=>(x.1,x.2.2)) w
 row:∀ x∈xs,aG base w x.2.2 x.2.1
 apart:∀ (i j:Nat) (x y:ep) (g:Nat),xs[i]?=some x->xs[j]?=some y->x.2.2.ownBlock=some g->y.2.2.ownBlock=some g->i=j
theorem MapX.keep{base r:Nat}{xs:List ep}{w w':World}(h:MapX base r xs w)(hb:Below w.heap.size w w'):MapX base r xs w':=⟨h.map.keep hb h.map.lt,λx hx=>(h.row x hx).keep hb,h.apart⟩
theorem MapX.made(base:Nat)(w:World):MapX base w.heap.size [] (w.alloc (.map #[] 0)):=⟨mE.made w,λx hx=>(by cases hx),λi j x y g h=>by simp at h⟩
theorem aG.turned{base r:Nat}{w w':World}{v:Value}{ps:List Np.Span}(h:aG base w v ps)(ht:Turned r w w')(hr:r<base):aG base w' v ps:=cM h (λg hg=>ht.block g (by have:=(h.lt g hg).1;omega))
theorem MapX.turned{base r I:Nat}{xs:List ep}{w w':World}(h:MapX base r xs w)(ht:Turned I w w')(hI:I≠r)(hrow:∀ x∈xs,x.2.2.ownBlock≠some I):MapX base r xs w':=
 ⟨h.map.keep' (ht.block r (Ne.symm hI)),λx hx=>cM (h.row x hx) (λg hg=>ht.block g (λe=>hrow x hx (by rw[hg,e]))),h.apart⟩
theorem MapX.changed{base r:Nat}{xs:List ep}{w w':World}(h:MapX base r xs w)(hr:r<base){j:Nat}{p:Int×List UInt8}{g g':List Np.Span}{v:Value}(hj:xs[j]?=some (p,g,v))(hg:w.grownBy w' v.ownBlock)(ho:aG base w' v g'):MapX base r (xs.set j (p,g',v)) w':=by
 have hv:=h.row _ (gQ hj);refine⟨?_,λx hx=>?_,λi i' x y b hx hy=>?_⟩
 ·have e:(xs.set j (p,g',v)).map (λx:ep=>(x.1,x.2.2))=xs.map λx=>(x.1,x.2.2):=by
   rw[List.map_set];apply List.ext_getElem?;intro i;rw[List.getElem?_set];split
   ·rename_i e;subst e;rw[List.length_map,Qb (cQ.1 hj).1,List.getElem?_map,hj];rfl
   ·rfl
  rw[e];refine h.map.keep' (hg.block r h.map.lt λe2=>?_)
  have:=(World.ownsRow.lt hv r e2.symm).1
  omega
 ·obtain⟨i,hi,rfl⟩:=nQ.1 hx;rw[List.length_set] at hi;rw[List.getElem_set];split
  ·exact ho
  ·rename_i hne;refine cM (h.row _ (List.getElem_mem hi)) λb hb=>hg.block b (World.ownsRow.lt (h.row _ (List.getElem_mem hi)) b hb).2 λe2=>hne ?_;exact h.apart j i _ _ b hj (aQ hi) e2.symm hb
 ·intro hb hb';have get:∀ (k:Nat) (z:ep),(xs.set j (p,g',v))[k]?=some z->∃ z',xs[k]?=some z'/\z'.2.2=z.2.2:=λk z hz=>by
   rw[List.getElem?_set] at hz;split at hz
   ·rename_i e;subst e;rw[Qb (cQ.1 hj).1] at hz
    cases hz
    exact⟨_,hj,rfl⟩
   ·exact⟨z,hz,rfl⟩
  obtain⟨x',hx',ex⟩:=get i x hx;obtain⟨y',hy',ey⟩:=get i' y hy;exact h.apart i i' x' y' b hx' hy' (by rw[ex];exact hb) (by rw[ey];exact hb')
theorem VX(p:Int×List UInt8)(P:Program)(w:World):(Instr.keyThatStays (pH p) (pH p)).run P w = .ok (pH p) w:=by
 have h1:∀ a:ByteArray,(a == a)=true:=λa=>by
  show (a.data == a.data)=true;simp
 have:Instr.sameBits 10000 (pH p) (pH p)=true:=by
  rw[show (10000:Nat)=9998+1+1 from rfl];simp[Instr.sameBits,pH,ay,h1]
 simp[Instr.keyThatStays,this]
section
variable {ops:Array Oper} {rest:List Oper} {o:Oper} {a:Act} {Q:Exit->Act->World->Prop}
theorem Z0(w:World)(hg:o.guard=none)(m x:Operand)(gj:o.op=Op.mapEntry 184 m x)(base r:Nat)(xs:List ep)(hm:a.eval m = .map (some r))(hr:MapX base r xs w)(zp:r<base)(p:Int×List UInt8)(hx:a.eval x=pH p)
 (hK:∀ (w':World) (j:Nat) (g:List Np.Span) (v:Value) (xs':List ep),((xs'=xs/\xs[j]?=some (p,g,v))\/(p∉xs.map (·.1)/\xs'=xs ++ [(p,[],.slice none 0 0)]/\j=xs.length/\g = []/\v = .slice none 0 0))->xs'[j]?=some (p,g,v)->MapX base r xs' w'->Turned r w w'->wpList prog ops Q rest (a.put o.dst (.tuple #[v,.int .i64 (j:Int)])) w'):wpList prog ops Q (o::rest) a w:=by
 obtain⟨es,hes,he,jX⟩:=hr.map;have ht:=underlying184;have hl:r<w.heap.size:=(eQ.1 hes).1;have hf:=Sk p w es.toList _ he;have hc:(Instr.checkKey false 10000 186 (pH p)).run prog w = .ok () w:=RB false p w;refine wpList_plain hg λK' hK'=>?_
 cases gC:(xs.map λx:ep=>(x.1,x.2.2)).lookup p with
 | some v=>
  obtain⟨j,j1,j2,hj⟩:=hf.1 v gC;obtain⟨e,eO,fT⟩:=Option.map_eq_some_iff.1 j1;rw[Array.getElem?_toList] at eO;simp only[Prod.mk.injEq] at fT;rw[List.getElem?_map] at j2;obtain⟨y,qv,nY⟩:=Option.map_eq_some_iff.1 j2;obtain⟨p',g,v'⟩:=y;simp only[Prod.mk.injEq] at nY;obtain⟨rfl,rfl⟩:=nY;have rm:(Instr.keyThatStays (((es[j]?).map (·.key)).getD (pH p')) (pH p')).run prog w = .ok (pH p') w:=by
   rw[eO];simp only[Option.map_some,Option.getD_some];rw[fT.1];exact VX _ _ w
  have an:((es[j]?).map (λx=>(x.born:Int))).getD 0=(j:Int):=by
   rw[eO];simp[jX j e eO]
  have Cr:(es.modify j λe=>{ e with key:=pH p' })=es:=by
   apply Array.ext_getElem?;intro i;rw[Array.getElem?_modify];split
   ·rename_i dz;subst dz;rw[eO];simp[<-fT.1]
   ·rfl
  have cH:(Instr.mapEntry 184 (.map (some r)) (pH p')).run prog w = .ok (.tuple #[v',.int .i64 (j:Int)]) { w with heap:=w.heap.setIfInBounds r (.map es es.size) }:=by
   simp[Instr.mapEntry,run_underlying ht,MapKept.run_getObj_map hes,hc,hj,rm,MapKept.run_setObj_map _ hes,Result.andThen,Cr,an,goInt]
  unfold Oper.wp;simp[execOp,gj,hm,hx,cH,Result.andThen];have ka:Turned r w { w with heap:=w.heap.setIfInBounds r (.map es es.size) }:=⟨rfl,rfl,rfl,by simp,λi hi=>by simp[Ne.symm hi]⟩;refine hK' _ _ (hK _ j g v' xs (.inl ⟨rfl,qv⟩) qv ⟨⟨es,by simp[hl],he,jX⟩,λx hx=>(hr.row x hx).turned ka zp,hr.apart⟩ ka)
 | none=>
  have hn:=hf.2 gC;have cH:(Instr.mapEntry 184 (.map (some r)) (pH p)).run prog w = .ok (.tuple #[.slice none 0 0,.int .i64 (es.size:Int)]) { w with heap:=w.heap.setIfInBounds r (.map (es.push { key:=pH p,val:=.slice none 0 0,born:=es.size }) (es.size+1)) }:=by
   simp[Instr.mapEntry,run_underlying ht,MapKept.run_getObj_map hes,hc,hn,MapKept.run_setObj_map _ hes,Result.andThen,goInt]
  have al:es.size=xs.length:=by
   have:=Qd List.length he
   simpa using this
  have UE:p∉xs.map (·.1):=by
   have:=Wo _ _ gC
   rw[List.map_map] at this;exact this
  unfold Oper.wp;simp[execOp,gj,hm,hx,cH,Result.andThen];have ka:Turned r w { w with heap:=w.heap.setIfInBounds r (.map (es.push { key:=pH p,val:=.slice none 0 0,born:=es.size }) (es.size+1)) }:=⟨rfl,rfl,rfl,by simp,λi hi=>by simp[Ne.symm hi]⟩;refine hK' _ _ (hK _ es.size [] (.slice none 0 0) (xs ++ [(p,[],.slice none 0 0)]) (.inr ⟨UE,rfl,al,rfl,rfl⟩) (by rw[al];simp) ⟨⟨es.push { key:=pH p,val:=.slice none 0 0,born:=es.size },by simp[hl],by simp[he],λi e hi=>?_⟩,λx hx=>?_,λi j x y b hx hy eN gw=>?_⟩ ka)
  ·rw[Array.getElem?_push] at hi;split at hi
   ·rename_i h1;cases hi;exact h1.symm
   ·exact jX i e hi
  ·rcases List.mem_append.1 hx with hx | hx
   ·exact (hr.row x hx).turned ka zp
   ·rw[List.mem_singleton] at hx;subst hx;exact aG.nil _ _
  ·have get:∀ (k:Nat) (z:ep),(xs ++ [(p,[],Value.slice none 0 0)])[k]?=some z->z.2.2.ownBlock=some b->xs[k]?=some z:=λk z hz mY=>by
    rw[List.getElem?_append] at hz;split at hz
    ·exact hz
    ·have:=gQ hz
     rw[List.mem_singleton] at this;subst this;simp[Value.ownBlock] at mY
   exact hr.apart i j x y b (get i x hx eN) (get j y hy gw) eN gw
end
section
variable {ops:Array Oper} {rest:List Oper} {o:Oper} {a:Act} {Q:Exit->Act->World->Prop}
theorem ZX(w:World)(fJ:o.guard=none)(s x:Operand)(ho:o.op = .call { callee:=.builtin .append,args:=#[s,x],argTypes:=#[55,55] })
 (base:Nat) (v:Value) (ps:List Np.Span) (hs:a.eval s=v) (hown:aG base w v ps) (blk:Nat) (f u:Int) (hx:a.eval x = .slice (some ⟨blk,0,none⟩) 1 1) (hc:w.cell? ⟨blk,0,none⟩=some (.int .i64 f)) (aW:w.cell? ⟨blk,1,none⟩=some (.int .i64 u)) (hlen:ps.length<=100000) (cW:base<=w.heap.size)
 (h:∀ v' w',aG base w' v' (ps ++ [⟨f,u⟩])->w.grownBy w' v.ownBlock->(v'.ownBlock=v.ownBlock\/v'.ownBlock=some w.heap.size)->wpList prog ops Q rest (a.put o.dst v') w'):wpList prog ops Q (o::rest) a w:=by
 obtain⟨i0,hi,dI,bg,aO⟩:=info_parts Tryz.infoSpan;refine wpList_append_own_at w fJ s x 55 ho base 110 i0 (.agg #[.int .i64 0,.int .i64 0]) 2 16 underlying55 hi dI bg aO rfl (by decide) v ps.length (ps.map eL).flatten hs hown ⟨blk,0,none⟩ 1 1 [.int .i64 f,.int .i64 u] hx rfl ?_ (by simp[Value.oneCell']) (by unfold maxLen;omega) (by omega) cW ?_
 ·intro j y hj
  match j,hj with
  | 0,hj=>simp at hj;subst hj;simpa [Addr.add] using hc
  | 1,hj=>simp at hj;subst hj;simpa [Addr.add] using aW
  | j+2,hj=>simp at hj
 ·intro v' w' ho' hg _ hat;refine h v' w' ?_ hg hat;have e:(ps ++ [(⟨f,u⟩:Np.Span)]).length=ps.length+1:=by simp
  unfold aG;rw[e,List.map_append,List.flatten_append];exact ho'
theorem ZZ(w w0:World)(fJ:o.guard=none)(m s x:Operand)(gj:o.op=Op.entryStore 184 m s x)(base r:Nat)(xs:List ep)(hX:MapX base r xs w0)(zp:r<base)(j:Nat)(p:Int×List UInt8)(g g':List Np.Span)(v v':Value)
 (hj:xs[j]?=some (p,g,v)) (hg:w0.grownBy w v.ownBlock) (ho:aG base w v' g') (hat:v'.ownBlock=v.ownBlock\/v'.ownBlock=some w0.heap.size) (hm:a.eval m = .map (some r)) (hs:a.eval s = .int .i64 (j:Int)) (hx:a.eval x=v')
 (hK:∀ w',MapX base r (xs.set j (p,g',v')) w'->Turned r w w'->wpList prog ops Q rest (a.put o.dst undef) w'):wpList prog ops Q (o::rest) a w:=by
 obtain⟨es,Ld,he,jX⟩:=hX.map;have rn:r<w0.heap.size:=(eQ.1 Ld).1;have hv:=hX.row _ (gQ hj);have hes:w.heap[r]?=some (.map es es.size):=(hg.block r rn (λe2=>by have:=(World.ownsRow.lt hv r e2.symm).1;omega)).trans Ld;have hl:r<w.heap.size:=(eQ.1 hes).1;have al:es.size=xs.length:=by
  have:=Qd List.length he
  simpa using this
 have jZ:j<xs.length:=(cQ.1 hj).1;have TV:es.findIdx? (λe=>(e.born:Int) == (j:Int))=some j:=by
  rw[Array.findIdx?_eq_some_iff_getElem];refine⟨by omega,?_,λi hi=>?_⟩
  ·have:=jX j _ (pQ (by omega))
   simp[this]
  ·have:=jX i _ (pQ (by omega))
   simp[this];omega
 refine wpList_plain fJ λK' hK'=>?_;have cH:(Instr.entryStore 184 (.map (some r)) (.int .i64 (j:Int)) v').run prog w = .ok () { w with heap:=w.heap.setIfInBounds r (.map (es.modify j λe=>{ e with val:=v' }) es.size) }:=by
  simp[Instr.entryStore,MapKept.run_getObj_map hes,TV,asInt,asIntOf,MapKept.run_setObj_map _ hes,Result.andThen]
 unfold Oper.wp;simp[execOp,gj,hm,hs,hx,cH,Result.andThen];have ka:Turned r w { w with heap:=w.heap.setIfInBounds r (.map (es.modify j λe=>{ e with val:=v' }) es.size) }:=⟨rfl,rfl,rfl,by simp,λi hi=>by simp[Ne.symm hi]⟩;refine hK' _ _ (hK _ ⟨⟨es.modify j λe=>{ e with val:=v' },by simp[hl],?_,λi e hi=>?_⟩,λy hy=>?_,λi i' y y' b hy hy' hb hb'=>?_⟩ ka)
 ·apply List.ext_getElem?;intro i;have hi:=Qd (λl=>l[i]?) he;simp only[List.getElem?_map,Array.getElem?_toList] at hi |-;rw[Array.getElem?_modify,List.getElem?_set];by_cases dz:j=i
  ·subst dz;rw[hj] at hi;rw[Qb rfl,Qb rfl,Qb jZ];obtain⟨e,eO⟩:∃ e,es[j]?=some e:=⟨_,pQ (by omega)⟩;rw[eO] at hi |-;simp at hi |-;exact hi.1
  ·rw[Qc dz,Qc dz];simpa using hi
 ·rw[Array.getElem?_modify] at hi;split at hi
  ·rename_i dz;subst dz;obtain⟨e',he',rfl⟩:=Option.map_eq_some_iff.1 hi;exact jX j e' he'
  ·exact jX i e hi
 ·obtain⟨i,hi,rfl⟩:=nQ.1 hy;rw[List.length_set] at hi;rw[List.getElem_set];split
  ·exact ho.turned ka zp
  ·rename_i hne;have h1:=hX.row _ (List.getElem_mem hi);have h2:aG base w xs[i].2.2 xs[i].2.1:=cM h1 λb hb=>hg.block b (World.ownsRow.lt h1 b hb).2 λe2=>hne (hX.apart j i _ _ b hj (aQ hi) e2.symm hb);exact h2.turned ka zp
 ·have get:∀ (k:Nat) (z:ep),(xs.set j (p,g',v'))[k]?=some z->(k=j/\z=(p,g',v'))\/(k≠j/\xs[k]?=some z):=λk z hz=>by
   rw[List.getElem?_set] at hz;split at hz
   ·rename_i e;subst e
    first
     | (rw[Qb jZ] at hz;cases hz;exact .inl ⟨rfl,rfl⟩)
     | (cases hz;exact .inl ⟨rfl,rfl⟩)
   ·rename_i e;exact .inr ⟨λe2=>e e2.symm,hz⟩
  have clash:∀ (k:Nat) (z:ep),k≠j->xs[k]?=some z->z.2.2.ownBlock=some b->v'.ownBlock=some b->False:=λk z hk hz mY fV=>by
   rcases hat with h1 | h1
   ·rw[fV] at h1;exact hk (hX.apart k j _ _ b hz hj mY h1.symm)
   ·rw[fV] at h1
    have:=(World.ownsRow.lt (hX.row _ (gQ hz)) b mY).2
    simp at h1;omega
  rcases get i y hy with ⟨e1,rfl⟩ | ⟨e1,h1⟩
  ·rcases get i' y' hy' with ⟨e2,rfl⟩ | ⟨e2,h2⟩
   ·rw[e1,e2]
   ·exact (clash i' y' e2 h2 hb' hb).elim
  ·rcases get i' y' hy' with ⟨e2,rfl⟩ | ⟨e2,h2⟩
   ·exact (clash i y e1 h1 hb hb').elim
   ·exact hX.apart i i' y y' b h1 h2 hb hb'
structure RangeX(base r I:Nat)(xs:List ep)(seen:Array Nat)(w:World):Prop where
 mapX:MapX base r xs w
 iter:w.heap[I]?=some (.mapIter (some r) xs.length seen xs.length)
 row:∀ x∈xs,x.2.2.ownBlock≠some I
theorem RangeX.ne{base r I:Nat}{xs:List ep}{seen:Array Nat}{w:World}(h:RangeX base r I xs seen w):I≠r:=by
 obtain⟨es,h1,_⟩:=h.mapX.map;intro e
 have:=h.iter
 rw[e,h1] at this
 cases this
theorem RangeX.lt{base r I:Nat}{xs:List ep}{seen:Array Nat}{w:World}(h:RangeX base r I xs seen w):I<w.heap.size:=(eQ.1 h.iter).1
theorem RangeX.keep{base r I:Nat}{xs:List ep}{seen:Array Nat}{w w':World}(h:RangeX base r I xs seen w)(hb:Below w.heap.size w w'):RangeX base r I xs seen w':=⟨h.mapX.keep hb,(hb.block I h.lt).trans h.iter,h.row⟩
theorem RangeX.changed{base r I:Nat}{xs:List ep}{seen:Array Nat}{w w':World}(h:RangeX base r I xs seen w)(hr:r<base){j:Nat}{p:Int×List UInt8}{g g':List Np.Span}{v:Value}(hj:xs[j]?=some (p,g,v))(hg:w.grownBy w' v.ownBlock)(ho:aG base w' v g'):RangeX base r I (xs.set j (p,g',v)) seen w':=by
 have hv:=h.row _ (gQ hj);refine⟨h.mapX.changed hr hj hg ho,?_,λx hx=>?_⟩
 ·rw[List.length_set];exact (hg.block I h.lt (λe=>hv e.symm)).trans h.iter
 ·obtain⟨i,hi,rfl⟩:=nQ.1 hx;rw[List.length_set] at hi;rw[List.getElem_set];split
  ·exact hv
  ·exact h.row _ (List.getElem_mem hi)
theorem MapX.size{base r:Nat}{xs:List ep}{w:World}(h:MapX base r xs w):∃ es,w.heap[r]?=some (.map es xs.length)/\es.size=xs.length/\es.toList.map (λe=>(e.key,e.val))=(xs.map λx=>(x.1,x.2.2)).map (λp=>(pH p.1,p.2))/\∀ (i:Nat) (e:MapEntry),es[i]?=some e->e.born=i:=by
 obtain⟨es,h1,h2,h3⟩:=h.map;have al:es.size=xs.length:=by
  have:=Qd List.length h2
  simpa using this
 exact⟨es,by rw[<-al];exact h1,al,h2,h3⟩
theorem Z2(w:World)(hg:o.guard=none)(m:Operand)(gj:o.op=Op.range 184 m)(base r:Nat)(xs:List ep)(hm:a.eval m = .map (some r))(hX:MapX base r xs w)
 (hK:∀ w',RangeX base r w.heap.size xs #[] w'->Below w.heap.size w w'->w'.heap.size=w.heap.size+1->wpList prog ops Q rest (a.put o.dst (.pointer (some ⟨w.heap.size,0,none⟩))) w'):wpList prog ops Q (o::rest) a w:=by
 obtain⟨es,hes,al,_⟩:=hX.size;have cH:=run_range_map (P:=prog) w 184 _ _ r es xs.length underlying184 hes;refine wpList_plain hg λK' hK'=>?_;unfold Oper.wp;simp[execOp,gj,hm,cH,Result.andThen];have hb:Below w.heap.size w (w.alloc (.mapIter (some r) xs.length #[] xs.length)):=(vQ _ _).alloc (bQ _) _;refine hK' _ _ (hK _ ⟨hX.keep hb,heap_alloc_new _ _,λx hx e=>?_⟩ hb (by simp))
 have:=(World.ownsRow.lt (hX.row x hx) _ e).2
 omega
theorem Nj{w w':World}{r I:Nat}(h1:w'.heap[r]?=w.heap[r]?)(h2:w'.heap[I]?=w.heap[I]?):w'.rangeLeft r I=w.rangeLeft r I:=by
 unfold World.rangeLeft;rw[h1,h2]
theorem Z1(w:World)(hg:o.guard=none)(it:Operand)(gj:o.op=Op.next it false)(base r I:Nat)(xs:List ep)(seen:Array Nat)(hit:a.eval it = .pointer (some ⟨I,0,none⟩))(h:RangeX base r I xs seen w)
 (SZ:(∀ j,j<xs.length->seen.contains j=true)->wpList prog ops Q rest (a.put o.dst (.tuple #[.bool false])) w)
 (Tc:∀ (j:Nat) (p:Int×List UInt8) (g:List Np.Span) (v:Value) (w':World),xs[j]?=some (p,g,v)->RangeX base r I xs (seen.push j) w'->Turned I w w'->w'.rangeLeft r I<w.rangeLeft r I->(Instr.entry (.pointer (some ⟨I,0,none⟩))).run prog w' = .ok (.tuple #[pH p,v]) w'->wpList prog ops Q rest (a.put o.dst (.tuple #[.bool true,pH p,v])) w') :
 wpList prog ops Q (o::rest) a w:=by
 have hne:=h.ne;obtain⟨es,hes,al,he,jX⟩:=h.mapX.size;have hold:∀ x∈es.toList,x.born<xs.length:=λx hx=>by
  obtain⟨i,hi,rfl⟩:=nQ.1 hx;have hi':i<es.size:=by simpa using hi
  have:=jX i es[i] (pQ hi')
  simp only[Array.getElem_toList];omega
 refine wpList_plain hg λK' hK'=>?_;unfold Oper.wp;rcases run_next_at (P:=prog) w o.type I r xs.length xs.length seen es xs.length h.iter hes hold (bQ _) with ⟨h0,cH⟩ | ⟨e,tE,w1,jW,cH⟩
 ·simp[execOp,gj,hit,cH,Result.andThen];refine hK' _ _ (SZ λj hj=>?_);have h1:=all_seen es seen h0 es[j] (by simp);rwa [jX j es[j] (pQ (by omega))] at h1
 ·obtain⟨hem,aiZ⟩:=mem_left tE;obtain⟨j,hj,qa⟩:=nQ.1 hem;have hj':j<es.size:=by simpa using hj
  have Lp:es[j]?=some e:=by rw[pQ hj',<-qa];simp
  have FK:=jX j e Lp;obtain⟨⟨p,g,v⟩,hx⟩:∃ x,xs[j]?=some x:=⟨_,aQ (by omega)⟩;have Ur:e.key=pH p/\e.val=v:=by
   have hi:=Qd (λl=>l[j]?) he;simp only[List.getElem?_map,Array.getElem?_toList] at hi;rw[Lp,hx] at hi;simpa using hi
  obtain⟨bY,ir⟩:=Ur;rw[FK] at cH;have fe:w1.heap[I]?=some (.mapIter (some r) xs.length seen xs.length):=by rcases jW with rfl | rfl <;> exact h.iter
  have Fr:I<w1.heap.size:=(eQ.1 fe).1;have an:w1.heap[r]?=some (.map es xs.length):=by rcases jW with rfl | rfl <;> exact hes
  have aI:Below w.heap.size w w1:=by rcases jW with rfl | rfl;exact vQ _ _;exact (vQ _ _).drew
  have tP:w1.heap.size=w.heap.size:=by rcases jW with rfl | rfl <;> rfl
  obtain⟨w2,ag⟩:=abK (Go.ChangeMaps.setBlock w1 I (.mapIter (some r) xs.length (seen.push j) xs.length));have tw:w2.heap[I]?=some (.mapIter (some r) xs.length (seen.push j) xs.length):=by rw[<-ag];simp[Go.ChangeMaps.setBlock,Fr]
  have LJ:∀ i,i≠I->w2.heap[i]?=w1.heap[i]?:=λi hi=>by rw[<-ag];simp[Go.ChangeMaps.setBlock,Ne.symm hi]
  have aY:w1.heap=w.heap:=by rcases jW with rfl | rfl <;> rfl
  have ka:Turned I w w2:=⟨by rw[<-ag];exact aI.os,by rw[<-ag];exact aI.tape,by rw[<-ag];exact aI.output,by rw[<-ag];simp[Go.ChangeMaps.setBlock,tP],λi hi=>by rw[LJ i hi,aY]⟩;have ab:w2.heap[r]?=some (.map es xs.length):=(LJ r (Ne.symm hne)).trans an;rw[ag] at cH;simp[execOp,gj,hit,cH,Result.andThen];rw[bY,ir];refine hK' _ _ (Tc j p g v w2 hx ⟨h.mapX.turned ka hne h.row,tw,h.row⟩ ka ?_ ?_)
  ·have:=left_shrinks es seen e tE
   rw[FK] at this;unfold World.rangeLeft;rw[ab,tw,hes,h.iter];exact this
  ·have qf:(es.toList.map (·.born)).Nodup:=by
    rw[List.nodup_iff_pairwise_ne,List.pairwise_iff_getElem];intro i k hi hk hik;have hi':i<es.size:=by simpa using hi
    have hk':k<es.size:=by simpa using hk
    have h1:=jX i es[i] (pQ hi');have h2:=jX k es[k] (pQ hk');simp only[List.getElem_map,Array.getElem_toList];omega
   have:=run_entry_at (P:=prog) w2 I r xs.length seen es xs.length e (by rw[FK];exact tw) ab hem qf
   rw[bY,ir] at this;exact this
end
end
namespace Np
theorem zO{l:List Copy}{a:List UInt8} : a∈apexes l↔∃ c∈l,c.zone.apex=a:=by
 unfold apexes;rw[(De _).mem_iff,zR,List.mem_map]
theorem Q9{l m:List Copy}(h:∀ a,(∃ c∈l,c.zone.apex=a)↔∃ c∈m,c.zone.apex=a):apexes l=apexes m:=
 Hf ej _ _ (G9 (vN _)) (G9 (vN _)) λa=>zO.trans ((h a).trans zO.symm)
theorem JL(l:List Copy):(l.map (·.zone.apex)).foldl dT []=apexes l:=by
 have key:∀ (l o:List (List UInt8)),o.Pairwise (λa b=>aH a b<0)->(l.foldl dT o).Pairwise (λa b=>aH a b<0)/\∀ y,y∈l.foldl dT o↔y∈o\/y∈l:=by
  intro l
  induction l with
  | nil=>exact λo ho=>⟨ho,λy=>by simp⟩
  | cons a l ih=>
   intro o ho;obtain⟨h1,h2⟩:=Ng o a ho;obtain⟨h3,h4⟩:=ih _ h1;exact⟨h3,λy=>by rw[List.foldl_cons,h4,h2,List.mem_cons,or_assoc]⟩
 obtain⟨h1,h2⟩:=key (l.map (·.zone.apex)) [] List.Pairwise.nil;refine Hf ej _ _ h1 (G9 (vN _)) λa=>?_;rw[h2,zO,List.mem_map];simp
def uJ(a:Int)(c:Copy):List Copy:=if c.frm<a/\a<c.til then [⟨c.host,c.frm,a,c.zone⟩,⟨c.host,a,c.til,c.zone⟩] else [c]
def tb(l:List Copy)(k:Nat)(a:Int):List Copy:=
 match l[k]? with
 | none=>l
 | some c=>l.take k++uJ a c++l.drop (k+1)
theorem RW{a:Int}{c d:Copy}(h:d∈uJ a c):d.host=c.host/\d.zone=c.zone/\c.frm<=d.frm/\d.til<=c.til/\(c.frm<c.til->d.frm<d.til):=by
 unfold uJ at h;split at h
 ·rename_i hc;simp only[List.mem_cons,Qh,or_false] at h;rcases h with rfl | rfl
  ·exact⟨rfl,rfl,Int.le_refl _,Int.le_of_lt hc.2,λ_=>hc.1⟩
  ·exact⟨rfl,rfl,Int.le_of_lt hc.1,Int.le_refl _,λ_=>hc.2⟩
 ·rw[List.mem_singleton] at h;subst h;exact⟨rfl,rfl,Int.le_refl _,Int.le_refl _,id⟩
theorem RY{l:List Copy}{k:Nat}{c:Copy}(h:l[k]?=some c):l=l.take k ++ [c]++l.drop (k+1):=by
 obtain⟨hk,rfl⟩:=cQ.1 h;rw[List.append_assoc,List.singleton_append,List.getElem_cons_drop,List.take_append_drop]
theorem Kf(l:List Copy)(k:Nat)(a:Int):tb l k a=l\/∃ p c q,l=p ++ [c]++q/\tb l k a=p++uJ a c++q:=by
 unfold tb
 cases h:l[k]? with
 | none=>exact .inl rfl
 | some c=>exact .inr ⟨_,c,_,RY h,rfl⟩
theorem Kg{l:List Copy}{k:Nat}{a:Int}{d:Copy}(h:d∈tb l k a):∃ c∈l,d.host=c.host/\d.zone=c.zone/\c.frm<=d.frm/\d.til<=c.til/\(c.frm<c.til->d.frm<d.til):=by
 rcases Kf l k a with e | ⟨p,c,q,e1,e2⟩
 ·rw[e] at h;exact⟨d,h,rfl,rfl,Int.le_refl _,Int.le_refl _,id⟩
 ·rw[e2] at h;rcases List.mem_append.1 h with h | h
  ·rcases List.mem_append.1 h with h | h
   ·exact⟨d,by rw[e1];simp[h],rfl,rfl,Int.le_refl _,Int.le_refl _,id⟩
   ·exact⟨c,by rw[e1];simp,RW h⟩
  ·exact⟨d,by rw[e1];simp[h],rfl,rfl,Int.le_refl _,Int.le_refl _,id⟩
theorem K0{l:List Copy}(hl:oa l){P:Int->Zone->Prop} : (∃ c∈l,P c.host c.zone)↔∃ t,∃ c∈l,P c.host c.zone/\c.frm<=t/\t<c.til:=
 ⟨λ⟨c,h1,h2⟩=>⟨c.frm,c,h1,h2,Int.le_refl _,hl c h1⟩,λ⟨_,c,h1,h2,_⟩=>⟨c,h1,h2⟩⟩
def uG(l m:List Copy):Prop:=∀ (P:Int->Zone->Prop) (t:Int),(∃ d∈l,P d.host d.zone/\d.frm<=t/\t<d.til)↔∃ c∈m,P c.host c.zone/\c.frm<=t/\t<c.til
theorem uG.zone{l m:List Copy}(h:uG l m)(hl:oa l)(hm:oa m){P:Int->Zone->Prop} : (∃ c∈l,P c.host c.zone)↔∃ c∈m,P c.host c.zone:=by
 rw[K0 hl,K0 hm];exact⟨λ⟨t,ht⟩=>⟨t,(h P t).1 ht⟩,λ⟨t,ht⟩=>⟨t,(h P t).2 ht⟩⟩
theorem uG.apexes{l m:List Copy}(h:uG l m)(hl:oa l)(hm:oa m):apexes l=apexes m:=
 Q9 λa=>h.zone hl hm (P:=λ_ z=>z.apex=a)
theorem uG.fresh{l m:List Copy}(h:uG l m)(hl:oa l)(hm:oa m)(zone:List UInt8)(s:Signed):fX (eG (cN l zone) s)=fX (eG (cN m zone) s):=by
 refine WR (Dj hl) (Dj hm) λt=>GL.trans (Iff.trans ?_ GL.symm)
 have:=h (λ_ z=>z.apex=zone/\s∈z.sets) t
 simpa only[and_assoc] using this
theorem M2(a b:List Copy)(zone:List UInt8):cN (a++b) zone=cN a zone++cN b zone:=by
 unfold cN s9;rw[List.filter_append,List.flatMap_append]
theorem RX(l:List Copy)(k:Nat)(a:Int):(tb l k a).length<=l.length+1:=by
 rcases Kf l k a with e | ⟨p,c,q,e1,e2⟩
 ·rw[e];omega
 ·rw[e2,e1]
  have:(uJ a c).length<=2:=by unfold uJ;split <;> simp
  simp only[List.length_append,List.length_singleton];omega
def withC(h:Hist)(l:List Copy):Hist:=⟨h.hosts,l,h.anchor,h.hints,h.drift,h.stop⟩
def vV(l:List Copy)(u:Int):List Copy:=(l.map λc=>⟨c.host,c.frm,min c.til u,c.zone⟩).filter λc=>decide (c.frm<c.til)
theorem MH{l:List Copy}{u:Int}{d:Copy} : d∈vV l u↔∃ c∈l,d=⟨c.host,c.frm,min c.til u,c.zone⟩/\c.frm<min c.til u:=by
 unfold vV;rw[List.mem_filter,List.mem_map];constructor
 ·rintro⟨⟨c,hc,rfl⟩,h⟩;exact⟨c,hc,rfl,by simpa using h⟩
 ·rintro⟨c,hc,rfl,h⟩;exact⟨⟨c,hc,rfl⟩,by simpa using h⟩
theorem YO(l:List Copy)(u:Int):(vV l u).length<=l.length:=by
 unfold vV;exact yQ (List.length_filter_le _ _) (by rw[List.length_map];exact bQ _)
def uH(s:Signed):Prop:=∀ g∈s.sigs,0<=g.sum/\g.sum<18446744073709551616
def lS(h:Hist):Prop:=∀ c∈h.copies,∀ s∈c.zone.sets,uH s
theorem YC{c:UInt8}(h:qx c=true):c≠47:=by rintro rfl;revert h;decide
theorem CR{l:List UInt8}(h:aD l=true):47∉l:=λhm=>by
 obtain⟨_,rfl | ⟨c,r,rfl,_,hr⟩⟩:=vL h
 ·revert hm;decide
 ·exact YC (List.all_eq_true.1 hr 47 hm) rfl
theorem Sx{l:List UInt8}(h:iV l=true):47∉l:=λhm=>by
 unfold iV at h;simp only[Bool.and_eq_true] at h
 have:=List.all_eq_true.1 h.2 47 hm
 revert this;decide
theorem Zj{k:Int}{l:List UInt8}(h:ue k l=true):47∉l:=by
 unfold ue at h;split at h
 ·simp only[Bool.and_eq_true] at h;exact CR h.1
 ·split at h
  ·exact CR h
  ·split at h
   ·exact Sx h
   ·have:l = []:=by simpa using h
    rw[this];simp
theorem NH(k:Int):0<=(bD k).leastN/\0<=(bD k).leastM:=by
 unfold bD;generalize k.toNat=n;by_cases h:n<9
 ·have:∀ m,m<9->0<=(rules.getD m ⟨0,0,0,0,0,false,false,false⟩).leastN/\0<=(rules.getD m ⟨0,0,0,0,0,false,false,false⟩).leastM:=by decide
  exact this n h
 ·have e:rules[n]?=none:=List.getElem?_eq_none (by simp[rules];omega);rw[List.getD_eq_getElem?_getD,e];decide
theorem R3{k:Int}{d:Datum}(h:iZ (bD k) d=true):47∉d.text/\0<=d.n/\0<=d.m:=by
 unfold iZ at h;simp only[Bool.and_eq_true,Qa] at h;obtain⟨⟨⟨⟨h1,_⟩,h2,_⟩,_⟩,h3⟩:=h
 have:=NH k
 exact⟨Zj h3,by omega,by omega⟩
theorem ug{z:Zone}(v:VZone z):aD z.apex=true/\∀ x∈z.sets,da x.set=true:=by
 have h:=v.right;unfold ei at h;simp only[Bool.and_eq_true] at h;exact⟨h.1.1,BP h.2⟩
theorem OQ{z:Zone}(v:VZone z){x:Signed}(hx:x∈z.sets)(hs:uH x):Plain47 x:=by
 obtain⟨ha,hv⟩:=ug v;obtain⟨h1,h2,h3,h4,h5,h6,h7,h8⟩:=rY (hv x hx);refine⟨CR h1,by omega,h4,λd hd=>R3 (Fh h8 d hd),λg hg=>?_⟩;obtain⟨i,hi⟩:=List.mem_iff_getElem?.1 hg
 have:=(v.form x hx).2 i g hi
 exact⟨by rw[this.zone];exact CR ha,by have:=this.key;omega,by have:=this.alg;omega,this.win.1,by have:=this.win;omega,(hs g hg).1⟩
def mp(us:List Signed):List (List UInt8×Value):=us.zipIdx.map λp=>(iz p.1,.int .i64 ((p.2:Nat):Int))
theorem VZ(us:List Signed)(s:Signed):mp (us ++ [s])=mp us ++ [(iz s,.int .i64 ((us.length:Nat):Int))]:=by
 unfold mp;rw[List.zipIdx_append,List.map_append];simp
theorem Mx:∀ (us:List Signed) (n:Nat) (s:Signed),Plain47 s->(∀ x∈us,Plain47 x)->s∉us->((us.zipIdx n).map λp=>(iz p.1,Value.int .i64 ((p.2:Nat):Int))).lookup (iz s)=none
 | [],_,_,_,_,_=>rfl
 | x::us,n,s,hs,hu,hn=>by
   rw[List.zipIdx_cons,List.map_cons,List.lookup_cons];have hne:(iz s == iz x)=false:=by
    rw[beq_eq_false_iff_ne];intro e;exact hn (by rw[Mw hs (hu x (by simp)) e];simp)
   rw[hne];exact Mx us (n+1) s hs (λy hy=>hu y (mQ _ hy)) (λh=>hn (mQ _ h))
theorem VY{us:List Signed}{s:Signed}(hs:Plain47 s)(hu:∀ x∈us,Plain47 x)(hn:s∉us):(mp us).lookup (iz s)=none:=Mx us 0 s hs hu hn
theorem My:∀ (us:List Signed) (n:Nat) (s:Signed) (i:Nat),Plain47 s->(∀ x∈us,Plain47 x)->us.Nodup->us[i]?=some s->((us.zipIdx n).map λp=>(iz p.1,Value.int .i64 ((p.2:Nat):Int))).lookup (iz s)=some (.int .i64 ((n+i:Nat):Int))
 | [],_,_,_,_,_,_,h=>by simp at h
 | x::us,n,s,i,hs,hu,hd,h=>by
   rw[List.zipIdx_cons,List.map_cons,List.lookup_cons]
   cases i with
   | zero=>
    have e:x=s:=by simpa using h
    subst e;simp
   | succ i=>
    have h':us[i]?=some s:=by simpa using h
    have hne:(iz s == iz x)=false:=by
     rw[beq_eq_false_iff_ne];intro e
     have:=Mw hs (hu x (by simp)) e
     subst this;exact (List.nodup_cons.1 hd).1 (gQ h')
    rw[hne]
    have:=My us (n+1) s i hs (λy hy=>hu y (mQ _ hy)) (List.nodup_cons.1 hd).2 h'
    rw[show n+(i+1)=n+1+i by omega];exact this
theorem V0{us:List Signed}{s:Signed}{i:Nat}(hs:Plain47 s)(hu:∀ x∈us,Plain47 x)(hd:us.Nodup)(h:us[i]?=some s):(mp us).lookup (iz s)=some (.int .i64 ((i:Nat):Int)):=by
 have:=My us 0 s i hs hu hd h
 rwa [Nat.zero_add] at this
def dR(ps:List (Span×Signed)):List (Signed×List Span):=(cU (ps.map (·.2))).map λs=>(s,eG ps s)
theorem Wv(ps:List (Span×Signed)):(dR ps).map (·.1)=cU (ps.map (·.2)):=by
 unfold dR;rw[List.map_map];exact List.map_id'' (λ_=>rfl) _
theorem Ww(f:List Span->List Span)(zone:List UInt8)(ps:List (Span×Signed)):pX f zone ps=(dR ps).map λx=>⟨zone,x.1,f x.2,[]⟩:=by
 unfold pX dR;rw[List.map_map];rfl
theorem Wy{ps:List (Span×Signed)}{p:Span×Signed}(h:p.2∉cU (ps.map (·.2))):dR (ps ++ [p])=dR ps ++ [(p.2,[p.1])]:=by
 have hn:p.2∉ps.map (·.2):=λhm=>h (zR.2 hm);unfold dR;rw[List.map_append,List.map_singleton,Hq,jS,Qc h,List.map_append];congr 1
 ·refine List.map_congr_left λs hs=>?_;rw[Dh,Qc (show ¬ p.2=s from λe=>h (by rw[e];exact hs))]
 ·simp[Dh,Zl hn]
theorem Wz{ps:List (Span×Signed)}{p:Span×Signed}{i:Nat}(h:(cU (ps.map (·.2)))[i]?=some p.2):dR (ps ++ [p])=(dR ps).set i (p.2,eG ps p.2 ++ [p.1]):=by
 obtain⟨hi,he⟩:=cQ.1 h;have hm:p.2∈cU (ps.map (·.2)):=by rw[<-he];exact List.getElem_mem _
 have qf:=vN (ps.map (·.2));have hu:cU ((ps ++ [p]).map (·.2))=cU (ps.map (·.2)):=by rw[List.map_append,List.map_singleton,Hq,JF hm]
 refine List.ext_getElem? λj=>?_;rw[List.getElem?_set];unfold dR;rw[hu,List.getElem?_map,List.getElem?_map,List.length_map];by_cases dz:i=j
 ·subst dz;rw[Qb rfl,Qb hi,h,Option.map_some,Dh,Qb rfl]
 ·rw[Qc dz]
  cases hj:(cU (ps.map (·.2)))[j]? with
  | none=>rfl
  | some s=>
   obtain⟨rl,vl⟩:=cQ.1 hj;have hne:p.2≠s:=λe=>dz ((List.getElem_inj (h₀:=hi) (h₁:=rl) qf).1 (he.trans (e.trans vl.symm)));rw[Option.map_some,Option.map_some,Dh,Qc hne]
theorem Wx(ps:List (Span×Signed)):(dR ps).length=(cU (ps.map (·.2))).length:=List.length_map _
def jE(x:Signed)(drift til:Int):Int:=
 match x.sigs with
 | []=>til - 1+max x.set.life 1+2 * drift
 | g::_=>min (til - 1+max x.set.life 1+2 * drift) (g.til+drift+1)
def ko(x:Signed)(drift:Int)(s:Span):Span:=⟨s.frm,max s.til (jE x drift s.til)⟩
def iE(x:Held)(drift:Int):List Span:=fX (x.fresh.map (ko x.signed drift))
def pubAll(h:Hist):List Held:=(apexes h.copies).flatMap λz=>pub h.copies z
def gN(h:Hist):List Held:=(pubAll h).map λx=>{ x with spans:=iE x h.drift }
theorem KE{x:Signed}{d:Int}{l:List Span}(h:∀ s∈l,s.frm<s.til):∀ s∈l.map (ko x d),s.frm<s.til:=λs hs=>by
 obtain⟨r,hr,rfl⟩:=List.mem_map.1 hs
 have:=h r hr
 show r.frm<max r.til (jE x d r.til);omega
theorem Zx{x:Held}{d:Int}(h:∀ s∈x.fresh,s.frm<s.til):ApartS (iE x d):=(zS (KE h)).1
theorem Ml{x:Held}{d t:Int}(h:∀ s∈x.fresh,s.frm<s.til):inS (iE x d) t↔∃ s∈x.fresh,s.frm<=t/\(t<s.til\/t<jE x.signed d s.til):=by
 unfold iE;rw[(zS (KE h)).2];unfold inS;constructor
 ·rintro⟨s,hs,h1,h2⟩;obtain⟨r,hr,rfl⟩:=List.mem_map.1 hs;refine⟨r,hr,h1,?_⟩;have h3:t<max r.til (jE x.signed d r.til):=h2;omega
 ·rintro⟨r,hr,h1,h2⟩;refine⟨_,List.mem_map.2 ⟨r,hr,rfl⟩,h1,?_⟩;show t<max r.til (jE x.signed d r.til);omega
theorem GS{h:Hist}{x:Held} : x∈pubAll h↔∃ z∈apexes h.copies,x∈pub h.copies z:=by
 unfold pubAll;rw[List.mem_flatMap]
theorem M3(c:Copy)(z:List UInt8):(cN [c] z).length=if c.zone.apex=z then c.zone.sets.length else 0:=by
 unfold cN s9;rw[List.filter_cons,List.filter_nil];by_cases h:c.zone.apex=z
 ·have hb:(c.zone.apex == z)=true:=by rw[h];simp
  rw[Qb h,hb,Qb rfl];simp[m9]
 ·have hb:(c.zone.apex == z)=false:=by simpa using h
  rw[Qc h,hb];simp
theorem M4(c:Copy):∀ zs:List (List UInt8),zs.Nodup->(zs.map λz=>(cN [c] z).length).sum<=c.zone.sets.length
 | [],_=>by simp
 | z::zs,h=>by
   obtain⟨h1,h2⟩:=List.nodup_cons.1 h;rw[List.map_cons,List.sum_cons,M3];by_cases e:c.zone.apex=z
   ·rw[Qb e];have h0:(zs.map λz=>(cN [c] z).length).sum=0:=by
     rw[List.sum_eq_zero_iff_forall_eq_nat];intro n hn;obtain⟨y,hy,rfl⟩:=List.mem_map.1 hn;rw[M3,Qc (λe2=>h1 (by rw[<-e,e2];exact hy))]
    omega
   ·rw[Qc e,Nat.zero_add];exact M4 c zs h2
theorem Og{α:Type}(f g:α->Nat):∀ l:List α,(l.map λx=>f x+g x).sum=(l.map f).sum+(l.map g).sum
 | []=>rfl
 | x::l=>by
   have:=Og f g l
   simp only[List.map_cons,List.sum_cons];omega
theorem M0{n:Nat} : ∀ (l:List Copy),(∀ c∈l,c.zone.sets.length<=n)->∀ zs:List (List UInt8),zs.Nodup->(zs.map λz=>(cN l z).length).sum<=l.length * n
 | [],_,zs,_=>by
   have:(zs.map λz=>(cN [] z).length).sum=0:=by
    rw[List.sum_eq_zero_iff_forall_eq_nat];intro n hn;obtain⟨y,hy,rfl⟩:=List.mem_map.1 hn;rfl
   omega
 | c::l,h,zs,hz=>by
   have h1:=M0 l (λd hd=>h d (mQ _ hd)) zs hz;have h2:=M4 c zs hz;have h3:=h c (by simp);have e:(zs.map λz=>(cN (c::l) z).length)=zs.map λz=>(cN [c] z).length+(cN l z).length:=by
    refine List.map_congr_left λz _=>?_
    have:=M2 [c] l z
    rw[List.singleton_append] at this;rw[this,List.length_append]
   rw[e,Og,List.length_cons,Nat.add_mul,Nat.one_mul];omega
theorem XA(l:List Copy)(z:List UInt8):(pub l z).length<=(cN l z).length:=by
 unfold pub;rw[TS]
 have:=wl ((cN l z).map (·.2))
 rwa [List.length_map] at this
theorem Oh{α:Type}{f g:α->Nat}(h:∀ x,f x<=g x):∀ l:List α,(l.map f).sum<=(l.map g).sum
 | []=>bQ _
 | x::l=>by
   have:=Oh h l
   have:=h x
   simp only[List.map_cons,List.sum_cons];omega
theorem Q8(l:List Copy):(apexes l).Nodup:=by
 unfold apexes;exact (De _).nodup_iff.2 (vN _)
def pubTo(h:Hist)(k:Nat):List Held:=((apexes h.copies).take k).flatMap λz=>pub h.copies z
theorem Xx{h:Hist}{k:Nat}{z:List UInt8}(hz:(apexes h.copies)[k]?=some z):pubTo h (k+1)=pubTo h k++pub h.copies z:=by
 obtain⟨hl,he⟩:=cQ.1 hz;unfold pubTo;rw[fQ hl,he,List.flatMap_append];simp
theorem Na{h:Hist}{k:Nat}(hk:(apexes h.copies).length<=k):pubTo h k=pubAll h:=by
 unfold pubTo pubAll;rw[kQ hk]
theorem Nb{h:Hist}{n m:Nat}(hn:∀ c∈h.copies,c.zone.sets.length<=n)(hm:h.copies.length<=m)(k:Nat):(pubTo h k).length<=m * n:=by
 unfold pubTo;rw[List.length_flatMap];refine yQ (Oh (λz=>XA h.copies z) _) (yQ (M0 h.copies hn _ ((Q8 _).sublist (List.take_sublist _ _))) (Nat.mul_le_mul_right n hm))
theorem Xu{h:Hist}{n m:Nat}(hn:∀ c∈h.copies,c.zone.sets.length<=n)(hm:h.copies.length<=m):(pubAll h).length<=m * n:=by
 rw[<-Na (bQ _)];exact Nb hn hm _
def mI(d:Int)(l:List Held)(k:Nat):List Held:=(l.take k).map (λx=>{ x with spans:=iE x d })++l.drop k
theorem Q3(d:Int)(l:List Held)(k:Nat):(mI d l k).length=l.length:=by
 unfold mI;rw[List.length_append,List.length_map,<-List.length_append,List.take_append_drop]
theorem JJ{d:Int}{l:List Held}{k:Nat}{x:Held}(hx:l[k]?=some x):(mI d l k)[k]?=some x:=by
 have hl:=(cQ.1 hx).1;unfold mI;rw[oQ (by simp;omega),List.length_map,List.length_take,Nat.min_eq_left (by omega),Nat.sub_self,List.getElem?_drop,Nat.add_zero];exact hx
theorem Q4{d:Int}{l:List Held}{k:Nat}{x:Held}(hx:l[k]?=some x):(mI d l k).set k { x with spans:=iE x d } = mI d l (k+1):=by
 obtain⟨hl,he⟩:=cQ.1 hx;unfold mI;have hn:((l.take k).map λx:Held=>{ x with spans:=iE x d }).length=k:=by simp;omega
 rw[List.set_append_right _ _ (by omega),hn,Nat.sub_self,fQ hl,he,List.map_append,List.append_assoc];congr 1;rw[<-List.getElem_cons_drop hl,he];rfl
theorem Q2{h:Hist}{k:Nat}(hk:(pubAll h).length<=k):mI h.drift (pubAll h) k=gN h:=by
 unfold mI gN;rw[kQ hk,List.drop_of_length_le hk,List.append_nil]

structure Ent22 where
 signed:Signed
 zone:List UInt8
 til:Int
deriving DecidableEq
noncomputable def oz(h:Hist):Int×List Held:=if yes (VHist h) then (0,gN h) else (1,[])
theorem xN{h:Hist}(k:VHist h):oz h=(0,gN h):=by unfold oz;rw[bS k];rfl
theorem EV{h:Hist}(k:¬ VHist h):oz h=(1,[]):=by unfold oz;rw[aK k];rfl
def VH(a b:Ent22):Prop:=a.signed.set.name=b.signed.set.name/\a.signed.set.type=b.signed.set.type/\a.zone=b.zone
structure EntOk(e:Ent22):Prop where
 name:aD e.signed.set.name=true
 zone:aD e.zone=true
 wild:dO e.zone=false
 under:aZ e.signed.set.name e.zone=true
 til:1<=e.til/\e.til<=20100001
 kind:(e.signed.set.data = []/\(1<=e.signed.set.type/\e.signed.set.type<=8)/\(0<=e.signed.set.life/\e.signed.set.life<=100000)/\e.signed.sigs = [])\/(e.signed.set.data≠[]/\da e.signed.set=true/\fp e.zone e.signed.sigs)
structure VCache(l:List Ent22):Prop where
 few:l.length<=400
 each:∀ e∈l,EntOk e
 apart:l.Pairwise λa b=>¬ VH a b
theorem VCache.sub{l m:List Ent22}(h:VCache l)(hm:m.Sublist l):VCache m:=
 ⟨yQ hm.length_le h.few,λe he=>h.each e (hm.subset he),h.apart.sublist hm⟩
end Np
end Go.Proofs.YtfnopgdcaanaiaaGreatDoor
