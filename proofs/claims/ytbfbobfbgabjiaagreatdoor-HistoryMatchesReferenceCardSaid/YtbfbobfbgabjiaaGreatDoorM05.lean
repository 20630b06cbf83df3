/- Parts of the proof. No condition. -/
import Derived.IntWalk
import Derived.Deep.LoopGhost
import Derived.Lib.ConvBytes
import Derived.Maps.Own
import Derived.WideMake
import Derived.Test.YtbfbobfbgabjiaaGreatDoorM04
set_option linter.all false
set_option maxRecDepth 100000
set_option maxHeartbeats 8000000
namespace Go.Proofs.YtbfbobfbgabjiaaGreatDoor
open Go.Proofs.Tryz
namespace Np
structure Host where
 name:List UInt8
 addr:Int
 owner:Int
deriving DecidableEq
structure Copy where
 host:Int
 frm:Int
 til:Int
 zone:Zone
deriving DecidableEq
structure Placed where
 host:Int
 zone:Zone
deriving DecidableEq
structure Held where
 zone:List UInt8
 signed:Signed
 fresh:List Span
 spans:List Span
deriving DecidableEq
structure Hist where
 hosts:List Host
 copies:List Copy
 anchor:DSet
 hints:List Int
 drift:Int
 stop:Int
structure WorldP where
 hosts:List Host
 zones:List Placed
 anchor:DSet
 hints:List Int
noncomputable def yes(P:Prop):Bool:=@decide P (Classical.propDecidable P)
theorem bO{P:Prop}(h:P):yes P=true:=by unfold yes; exact @uQ _ (Classical.propDecidable P) h
theorem aP{P:Prop}(h:¬ P):yes P=false:=by unfold yes; exact @tQ _ (Classical.propDecidable P) h
theorem eE{P:Prop} : yes P=true↔P:=by unfold yes; exact @decide_eq_true_iff _ (Classical.propDecidable P)
theorem tw{P Q:Prop}(h:P↔Q):yes P=yes Q:=by rw[Bool.eq_iff_iff,eE,eE]; exact h
structure HostOk(h:Host):Prop where
 name:aG h.name=true
 wild:fp h.name=false
 addr:1<=h.addr/\h.addr<=1000000
 owner:0<=h.owner/\h.owner<=31
structure VHosts(l:List Host):Prop where
 few:l.length<=64
 each:∀ h∈l,HostOk h
 addrs:(l.map (·.addr)).Nodup
structure VRoot(a:DSet)(hints:List Int):Prop where
 set:ee a=true
 type:a.type=6
 name:a.name = [46]
 few:1<=hints.length/\hints.length<=8
 each:∀ n∈hints,1<=n/\n<=1000000
structure CopyOk(h:Hist)(c:Copy):Prop where
 host:0<=c.host/\c.host<h.hosts.length
 times:0<=c.frm/\c.frm<c.til/\c.til<=h.stop
 zone:VZone c.zone
def jN(c d:Copy):Prop:=c.host=d.host/\c.zone.apex=d.zone.apex/\c.frm<d.til/\d.frm<c.til
structure VHist(h:Hist):Prop where
 stop:1<=h.stop/\h.stop<=10000000
 drift:0<=h.drift/\h.drift<=1000
 hosts:VHosts h.hosts
 root:VRoot h.anchor h.hints
 each:∀ c∈h.copies,CopyOk h c
 apart:h.copies.Pairwise λc d=>¬ jN c d
structure VWorld(w:WorldP):Prop where
 hosts:VHosts w.hosts
 root:VRoot w.anchor w.hints
 each:∀ p∈w.zones,(0<=p.host/\p.host<w.hosts.length)/\VZone p.zone
 apart:w.zones.Pairwise λp q=>¬ (p.host=q.host/\p.zone.apex=q.zone.apex)
def bq(l:List Span):List Span:=(l.mergeSort λa b=>decide (a.frm<=b.frm)).foldl gp []
theorem OM{l m:List Span}(h:l.Perm m)(t:Int):inS l t↔inS m t:=
 ⟨λ⟨s,hs,k⟩=>⟨s,h.mem_iff.1 hs,k⟩,λ⟨s,hs,k⟩=>⟨s,h.mem_iff.2 hs,k⟩⟩
theorem Og{l:List Span}(hf:∀ s∈l,s.frm<s.til)(hs:l.Pairwise λa b=>a.frm<=b.frm):ApartS (l.foldl gp [])/\∀ t,inS (l.foldl gp []) t↔inS l t:=by
 obtain⟨h1,h2⟩:=NL l [] ApartS.nil hf hs (λp hp=>by cases hp);exact⟨h1,λt=>(h2 t).trans ⟨λh=>h.elim (λh=>absurd h (oF t)) id,.inr⟩⟩
theorem Ng(l:List Span):(l.mergeSort λa b=>decide (a.frm<=b.frm)).Perm l:=List.mergeSort_perm _ _
theorem Ur(l:List Span):(l.mergeSort λa b=>decide (a.frm<=b.frm)).Pairwise λa b=>a.frm<=b.frm:=by
 have:=List.pairwise_mergeSort (le:=λa b:Span=>decide (a.frm<=b.frm)) (λx y z h1 h2=>by simp at *; omega) (λx y=>by simp; omega) l
 exact this.imp λh=>by simpa using h
theorem tB{l:List Span}(hf:∀ s∈l,s.frm<s.til):ApartS (bq l)/\∀ t,inS (bq l) t↔inS l t:=by
 obtain⟨h1,h2⟩:=Og (λs hs=>hf s ((Ng l).mem_iff.1 hs)) (Ur l);exact⟨h1,λt=>(h2 t).trans (OM (Ng l) t)⟩
theorem N4:bq [] = []:=by simp[bq]
theorem DP{l m:List Span}(hf:∀ s∈l,s.frm<s.til)(hm:ApartS m)(ht:∀ t,inS m t↔inS l t):m=bq l:=by
 obtain⟨h1,h2⟩:=tB hf;exact Mu _ _ hm h1 λt=>(ht t).trans (h2 t).symm
theorem UM{l m:List Span}(hf:∀ s∈l,s.frm<s.til)(hp:m.Perm l)(hs:m.Pairwise λa b=>a.frm<=b.frm):m.foldl gp []=bq l:=by
 obtain⟨h1,h2⟩:=Og (λs hs=>hf s (hp.mem_iff.1 hs)) hs;exact DP hf h1 λt=>(h2 t).trans (OM hp t)
theorem Ns{l m:List Span}(hl:∀ s∈l,s.frm<s.til)(hm:∀ s∈m,s.frm<s.til)(h:∀ t,inS l t↔inS m t):bq l=bq m:=by
 obtain⟨h1,h2⟩:=tB hl;exact DP hm h1 λt=>(h2 t).trans (h t)
theorem VW{l:List Span}{s:Span}(hl:∀ s∈l,s.frm<s.til)(hs:s.frm<s.til):nH (bq l) s=bq (l ++ [s]):=by
 obtain⟨h1,h2⟩:=tB hl;obtain⟨h3,h4,_⟩:=Hd (bq l) s h1 hs;refine DP (λx hx=>?_) h3 λt=>?_
 ·rcases List.mem_append.1 hx with hx | hx
  ·exact hl x hx
  ·rw[List.mem_singleton] at hx; subst hx; exact hs
 ·rw[h4,h2,yq,jm];constructor
  ·rintro (h | h); exact .inl h; exact .inr (.inl h)
  ·rintro (h | h | h); exact .inl h; exact .inr h; exact absurd h (oF t)
def im(c:Copy):Span:=⟨c.frm,c.til⟩
def rI(l:List Copy)(zone:List UInt8):List Copy:=l.filter λc=>c.zone.apex == zone
def oI(c:Copy):List (Span×Signed):=c.zone.sets.map λs=>(im c,s)
def dJ(l:List Copy)(zone:List UInt8):List (Span×Signed):=(rI l zone).flatMap oI
def ep(ps:List (Span×Signed))(s:Signed):List Span:=(ps.filter λp=>decide (p.2=s)).map (·.1)
def mJ(f:List Span->List Span)(zone:List UInt8)(ps:List (Span×Signed)):List Held:=(cH (ps.map (·.2))).map λs=>⟨zone,s,f (ep ps s),[]⟩
theorem tp(ps:List (Span×Signed))(p:Span×Signed)(s:Signed):ep (ps ++ [p]) s=if p.2=s then ep ps s ++ [p.1] else ep ps s:=by
 unfold ep;rw[List.filter_append];by_cases h:p.2=s
 ·simp[h]
 ·simp[h]
theorem Md{ps:List (Span×Signed)}{s:Signed}(h:s∉ps.map (·.2)):ep ps s = []:=by
 unfold ep;rw[List.filter_eq_nil_iff.2 (λp hp=>?_)]; rfl;simp only[Qa];rintro rfl;exact h (List.mem_map.2 ⟨p,hp,rfl⟩)
theorem Nw(f:List Span->List Span)(zone:List UInt8)(ps:List (Span×Signed)):(mJ f zone ps).length=(cH (ps.map (·.2))).length:=List.length_map _
theorem Of{f:List Span->List Span}{zone:List UInt8}{ps:List (Span×Signed)}{i:Nat}{x:Held} : (mJ f zone ps)[i]?=some x↔∃ s,(cH (ps.map (·.2)))[i]?=some s/\x=⟨zone,s,f (ep ps s),[]⟩:=by
 unfold mJ;rw[List.getElem?_map];constructor
 ·intro h;obtain⟨s,h1,h2⟩:=Option.map_eq_some_iff.1 h;exact⟨s,h1,h2.symm⟩
 ·rintro⟨s,h1,rfl⟩;rw[h1]; rfl
theorem WK{f:List Span->List Span}{zone:List UInt8}{ps:List (Span×Signed)}{p:Span×Signed}(h:p.2∉cH (ps.map (·.2))):mJ f zone (ps ++ [p])=mJ f zone ps ++ [⟨zone,p.2,f [p.1],[]⟩]:=by
 have hn:p.2∉ps.map (·.2):=λhm=>h (vu.2 hm);unfold mJ;rw[List.map_append,List.map_singleton,Ab,kT,Qc h,List.map_append];congr 1
 ·refine List.map_congr_left λs hs=>?_;rw[tp,Qc (show ¬ p.2=s from λe=>h (by rw[e]; exact hs))]
 ·simp[tp,Md hn]
theorem WJ{f:List Span->List Span}{zone:List UInt8}{ps:List (Span×Signed)}{p:Span×Signed}{i:Nat}(h:(cH (ps.map (·.2)))[i]?=some p.2):mJ f zone (ps ++ [p])=(mJ f zone ps).set i ⟨zone,p.2,f (ep ps p.2 ++ [p.1]),[]⟩:=by
 obtain⟨hi,he⟩:=cQ.1 h;have hm:p.2∈cH (ps.map (·.2)):=by rw[<-he]; exact List.getElem_mem _
 have nW:=x9 (ps.map (·.2));have hu:cH ((ps ++ [p]).map (·.2))=cH (ps.map (·.2)):=by rw[List.map_append,List.map_singleton,Ab,Hu hm]
 refine List.ext_getElem? λj=>?_;rw[List.getElem?_set];unfold mJ;rw[hu,List.getElem?_map,List.getElem?_map,List.length_map];by_cases dL:i=j
 ·subst dL;rw[Qb rfl,Qb hi,h,Option.map_some,tp,Qb rfl]
 ·rw[Qc dL]
  cases hj:(cH (ps.map (·.2)))[j]? with
  | none=>rfl
  | some s=>
   obtain⟨qJ,rn⟩:=cQ.1 hj;have hne:p.2≠s:=λe=>dL ((List.getElem_inj (h₀:=hi) (h₁:=qJ) nW).1 (he.trans (e.trans rn.symm)));rw[Option.map_some,Option.map_some,tp,Qc hne]
def pub(l:List Copy)(zone:List UInt8):List Held:=mJ bq zone (dJ l zone)
def apexes(l:List Copy):List (List UInt8):=tM (cH (l.map (·.zone.apex)))
def bS(l:List Copy)(t:Int):List Copy:=l.filter λc=>decide (c.frm<=t)&&decide (t<c.til)
def eV(c:Copy):Placed:=⟨c.host,c.zone⟩
def jo(h:Hist)(t:Int):WorldP:=⟨h.hosts,(bS h.copies t).map eV,h.anchor,h.hints⟩
def qy(l:List Copy)(zone:List UInt8)(k:Int):List Span:=bq ((l.filter λc=>decide (c.host=k)&&(c.zone.apex == zone)).map im)
theorem tA{l:List Copy}{zone:List UInt8}{p:Span×Signed} : p∈dJ l zone↔∃ c∈l,c.zone.apex=zone/\p.2∈c.zone.sets/\p.1=im c:=by
 unfold dJ rI oI;simp only[List.mem_flatMap,List.mem_filter,List.mem_map,beq_iff_eq];constructor
 ·rintro⟨c,⟨h1,h2⟩,s,hs,rfl⟩;exact⟨c,h1,h2,hs,rfl⟩
 ·rintro⟨c,h1,h2,h3,h4⟩;exact⟨c,⟨h1,h2⟩,p.2,h3,by rw[<-h4]⟩
theorem DH{ps:List (Span×Signed)}{s:Signed}{x:Span} : x∈ep ps s↔(x,s)∈ps:=by
 unfold ep;simp only[List.mem_map,List.mem_filter,Qa];constructor
 ·rintro⟨p,⟨h1,rfl⟩,rfl⟩; exact h1
 ·intro h; exact⟨(x,s),⟨h,rfl⟩,rfl⟩
def kR(l:List Copy):Prop:=∀ c∈l,c.frm<c.til
theorem VHist.full{h:Hist}(v:VHist h):kR h.copies:=λc hc=>(v.each c hc).times.2.1
theorem x8{l:List Copy}(hl:kR l){zone:List UInt8}{s:Signed} : ∀ x∈ep (dJ l zone) s,x.frm<x.til:=λx hx=>by
 obtain⟨c,hc,_,_,h4⟩:=tA.1 (DH.1 hx);have h4:x=im c:=h4;rw[h4]; exact hl c hc
theorem G9{l:List Copy}{zone:List UInt8}{s:Signed}{t:Int} : inS (ep (dJ l zone) s) t↔∃ c∈l,c.zone.apex=zone/\s∈c.zone.sets/\c.frm<=t/\t<c.til:=by
 constructor
 ·rintro⟨x,hx,h1,h2⟩;obtain⟨c,hc,h3,h4,h5⟩:=tA.1 (DH.1 hx);have h5:x=im c:=h5;subst h5;exact⟨c,hc,h3,h4,h1,h2⟩
 ·rintro⟨c,hc,h3,h4,h1,h2⟩;exact⟨im c,DH.2 (tA.2 ⟨c,hc,h3,h4,rfl⟩),h1,h2⟩
theorem MN{l:List Copy}{zone:List UInt8}{s:Signed} : s∈cH ((dJ l zone).map (·.2))↔∃ c∈l,c.zone.apex=zone/\s∈c.zone.sets:=by
 rw[vu,List.mem_map];constructor
 ·rintro⟨p,hp,rfl⟩;obtain⟨c,h1,h2,h3,_⟩:=tA.1 hp;exact⟨c,h1,h2,h3⟩
 ·rintro⟨c,h1,h2,h3⟩;exact⟨(im c,s),tA.2 ⟨c,h1,h2,h3,rfl⟩,rfl⟩
theorem H7{l:List Copy}(hl:kR l){zone:List UInt8}{x:Held}(hx:x∈pub l zone):x.zone=zone/\x.spans = []/\ApartS x.fresh/\(∃ c∈l,c.zone.apex=zone/\x.signed∈c.zone.sets)/\∀ t,inS x.fresh t↔∃ c∈l,c.zone.apex=zone/\x.signed∈c.zone.sets/\c.frm<=t/\t<c.til:=by
 unfold pub mJ at hx;obtain⟨s,hs,rfl⟩:=List.mem_map.1 hx;obtain⟨h1,h2⟩:=tB (x8 hl (zone:=zone) (s:=s));exact⟨rfl,rfl,h1,MN.1 hs,λt=>(h2 t).trans G9⟩
theorem Zm{l:List Copy}{zone:List UInt8}{s:Signed}(h:∃ c∈l,c.zone.apex=zone/\s∈c.zone.sets):∃ x∈pub l zone,x.signed=s:=
 ⟨_,List.mem_map.2 ⟨s,MN.2 h,rfl⟩,rfl⟩
end Np
section
open Go.RowKit
theorem rL{w:World}{B:Nat}{v:Value}{xs:List Np.Sig}(h:SlR fT 6 w B v xs){k:Nat}{x:Np.Sig}(hx:xs[k]?=some x):∃ (b o c:Nat) (s:ByteArray),v = .slice (some ⟨b,o,none⟩) xs.length c/\b<B/\s.data.toList=x.zone/\s.size<=140737488355328/\
 w.cell? ⟨b,o+k * 6,none⟩=some (.string s)/\w.cell? ⟨b,o+k * 6+1,none⟩=some (.int .i64 x.key)/\w.cell? ⟨b,o+k * 6+2,none⟩=some (.int .i64 x.alg)/\w.cell? ⟨b,o+k * 6+3,none⟩=some (.int .i64 x.frm)/\w.cell? ⟨b,o+k * 6+4,none⟩=some (.int .i64 x.til)/\w.cell? ⟨b,o+k * 6+5,none⟩=some (.int .u64 x.sum):=by
 obtain⟨A,c,rfl,hc,_,he⟩:=h;obtain⟨b,o,e,rfl,hb,_,hce,s,h1,h2,rfl⟩:=he k x hx;exact⟨b,o,c,s,rfl,hb,h1,h2,by have:=hce 0 _ rfl; simpa using this,hce 1 _ rfl,hce 2 _ rfl,hce 3 _ rfl,hce 4 _ rfl,hce 5 _ rfl⟩
theorem Ml(t:Int)(b:Bool)(w:World) :
 Calls prog 166 #[.int .i64 t,.bool b] w λe w'=>e = .returned (.bool (Np.kj t b))/\w=w':=by
 unfold Np.kj;go_enter func166,ntmps166;go_wp2_with fail
 all_goals
  go_ret;refine⟨aj ?_,rfl⟩;simp_all
theorem Od{a:List UInt8}{l:List Np.Sig}{k:Nat}{x:Np.Sig}(hx:l[k]?=some x)(h:¬ Np.SigOk a l k x):Np.yes (Np.gV a l)=false:=Np.aP λhf=>h (hf.2 k x hx)
theorem Ow{a:List UInt8}{l:List Np.Sig}{k:Nat}{x:Np.Sig}(hx:l[k]?=some x)(h:∀ j g,j<k->l[j]?=some g->Np.SigOk a l j g)(hk:Np.SigOk a l k x):∀ j g,j<k+1->l[j]?=some g->Np.SigOk a l j g:=λj g hj hg=>by
 by_cases e:j=k
 ·subst e; rw[hx] at hg; cases hg; exact hk
 ·exact h j g (by omega) hg
theorem WH(a:ByteArray)(v:Value)(l:List Np.Sig)(w:World)(h:SlR fT 6 w w.heap.size v l) :
 Calls prog 167 #[v,.string a] w λe w'=>e = .returned (.bool (Np.yes (Np.gV a.data.toList l)))/\Below w.heap.size w w':=by
 obtain⟨r,hr⟩:∃ r,Np.yes (Np.gV a.data.toList l)=r:=⟨_,rfl⟩;rw[hr];have HR:=jq hr;have H:=jq h;obtain⟨A,c,rfl,bC,bH⟩:=ag h;clear h hr;by_cases h6:l.length<=6
 ·have H6:=jq h6;go_enter func167,ntmps167;go_wp2_with fail;go_loopw [12] (λi wr=>∃ k:Nat,k<=l.length/\i = .int .i64 k/\Hid (Below w.heap.size w wr)/\Hid (∀ j g,j<k->l[j]?=some g->Np.SigOk a.data.toList l j g)) (λi _=>l.length - (intOf i).toNat)
  case atStart=>exact⟨0,jQ _,rfl,jq (vQ _ _),jq (λj g hj=>by omega)⟩
  case round=>
   obtain⟨k,hk,rfl,HB,HA⟩:=hrel;by_cases ab:k<l.length
   ·have eM:=H.out.keep gg HB.out;have ac:=aQ ab;obtain⟨b,o,c',s,hA,bg,hs,an,e0,e1,e2,e3,e4,e5⟩:=rL eM ac
    cases hA
    have wF:=aQ (show 0<l.length by omega);obtain⟨b',o',c'',s',hA,_,_,_,_,z1,z2,z3,z4,_⟩:=rL eM wF;simp only[Value.slice.injEq,Option.some.injEq,Addr.mk.injEq,and_true,true_and] at hA;obtain⟨⟨rfl,rfl⟩,-⟩:=hA;simp only[Nat.zero_mul,Nat.add_zero] at z3 z4;have HN:Hid (∀ h:Np.SigOk a.data.toList l k l[k],∀ j g,j<k+1->l[j]?=some g->Np.SigOk a.data.toList l j g):=jq (λh=>Ow ac HA.out h);have HF:Hid (¬ Np.SigOk a.data.toList l k l[k]->r=false):=jq (λh=>HR.out ▸ Od ac h);have HZ:=jq wF;have qh:=jq ac;have HS:=jq hs;have kZ:=HB.out.size;have zk:b<wr.heap.size:=by omega
    have br:Hid (∀ o n,Below w.heap.size w ((wr.alloc o).drewN n)):=jq (λo n=>below_drewN (HB.out.alloc HB.out.size _) _);have qg:Hid (∀ o,Below w.heap.size w (wr.alloc o)):=jq (λo=>(HB.out.alloc HB.out.size _));have bW:(0:Int)<=(k:Int):=by omega
    have bV:(k:Int)<(l.length:Int):=by omega
    have bI:(0:Int)<(l.length:Int):=by omega
    have LF:Hid (∀ m,k=m+1->∃ y,l[m]?=some y/\wr.cell? ⟨b,o+m * 6+1,none⟩=some (.int .i64 y.key)):=jq (λm hm=>by
     obtain⟨b2,o2,c2,s2,hA,_,_,_,_,y1,_⟩:=rL eM (aQ (show m<l.length by omega));simp only[Value.slice.injEq,Option.some.injEq,Addr.mk.injEq,and_true,true_and] at hA;obtain⟨⟨rfl,rfl⟩,-⟩:=hA;exact⟨_,aQ (by omega),y1⟩)
    generalize l[k]=x at *;generalize l[0]=x0 at *;clear eM hs ac wF z1 z2;have td:((!s.toList == a.toList)=true)\/(!s.toList == a.toList)=false/\(decide (x.key<1)=true\/decide (x.key<1)=false/\(decide (1000000<x.key)=true\/decide (1000000<x.key)=false/\(decide (x.alg<1)=true\/decide (x.alg<1)=false/\(decide (3<x.alg)=true\/decide (3<x.alg)=false/\(decide (x.frm<0)=true\/decide (x.frm<0)=false/\(decide (x.til<x.frm)=true\/decide (x.til<x.frm)=false/\(decide (20000000<x.til)=true\/decide (20000000<x.til)=false))))))):=by
     simp only[Qa,decide_eq_false_iff_not];by_cases q:s.toList=a.toList
     ·simp[q]; omega
     ·exact .inl (by simpa using q)
    rcases td with d1 | ⟨d1,d2 | ⟨d2,d3 | ⟨d3,d4 | ⟨d4,d5 | ⟨d5,d6 | ⟨d6,d7 | ⟨d7,d8 | d8⟩⟩⟩⟩⟩⟩⟩
    rotate_right
    ·by_cases jy:k=0
     ·have kV:decide ((0:Int)<(k:Int))=false:=by simp; omega
      have lH:decide (0<k)=false:=by simp; omega
      have bZ:Hid (Np.SigOk a.data.toList l k x):=jq (by
       have e1:s.toList=a.toList:=by simpa using d1
       rw[dQ,dQ] at e1;simp only[decide_eq_false_iff_not] at d2 d3 d4 d5 d6 d7 d8;have fz:x0=x:=by
        have h1:=HZ.out;rw[<-jy,qh.out] at h1;exact (Option.some.inj h1).symm
       refine⟨by rw[<-HS.out,e1],by omega,by omega,by omega,λq hq=>?_,λp _ h0=>by omega⟩;rw[HZ.out] at hq; cases hq;rw[fz]; exact⟨rfl,rfl⟩)
      clear jy;go_wp2_with fail;go_quiet (fail);go_wp2_with fail;go_roundw
      case rel=>exact⟨k+1,by omega,by go_num,jq (br.out _ _),jq (HN.out bZ.out)⟩
      case measure=>simp[intOf] <;> omega
     ·obtain⟨m,rfl⟩:∃ m,k=m+1:=⟨k - 1,by omega⟩;obtain⟨y,hy,y1⟩:=LF.out m rfl;have HY:=jq hy;have kV:decide ((0:Int)<((m+1:Nat):Int))=true:=by simp
      have al:IntKind.i64.wrap (((m+1:Nat):Int) - 1)=(m:Int):=by rw[IntWalk.i64_in _ (by omega)]; omega
      have nj:(0:Int)<=(m:Int):=by omega
      have sK:(m:Int)<(l.length:Int):=by omega
      have ayX:((x.frm != x0.frm)=true)\/(x.frm != x0.frm)=false/\((x.til != x0.til)=true\/(x.til != x0.til)=false/\(decide (x.key<=y.key)=true\/decide (x.key<=y.key)=false)):=by
       simp only[bne_iff_ne,bne_eq_false_iff_eq,Qa,decide_eq_false_iff_not]; omega
      clear hy jy;rcases ayX with c1 | ⟨c1,c2 | ⟨c2,c3 | c3⟩⟩
      rotate_right
      ·have bZ:Hid (Np.SigOk a.data.toList l (m+1) x):=jq (by
        have e1:s.toList=a.toList:=by simpa using d1
        rw[dQ,dQ] at e1;simp only[decide_eq_false_iff_not,bne_eq_false_iff_eq] at d2 d3 d4 d5 d6 d7 d8 c1 c2 c3;refine⟨by rw[<-HS.out,e1],by omega,by omega,by omega,λq hq=>?_,λp hp h0=>?_⟩
        ·rw[HZ.out] at hq; cases hq;exact⟨c1,c2⟩
        ·rw[show m+1 - 1=m by omega,HY.out] at hp; cases hp;omega)
       go_wp2_with fail;go_quiet (fail);go_wp2_with fail;go_roundw
       case rel=>exact⟨m+1+1,by omega,by go_num,jq (br.out _ _),jq (HN.out bZ.out)⟩
       case measure=>simp[intOf] <;> omega
      all_goals
       go_wp2_with fail;go_quiet (fail);go_wp2_with fail;go_ret;refine⟨aj (HF.out ?_).symm,br.out _ _⟩;intro nV;have k5:=nV.same _ HZ.out;have k6:=nV.up _ HY.out (by omega);simp only[bne_iff_ne,bne_eq_false_iff_eq,Qa,decide_eq_false_iff_not] at *;omega
    all_goals
     go_wp2_with fail;go_ret;refine⟨aj (HF.out ?_).symm,qg.out _⟩;intro nV;obtain⟨k1,k2,k3,k4,_,_⟩:=nV
     first
      | (rw[dQ,dQ,HS.out,k1] at d1; simp at d1; done)
      | (simp only[Qa,decide_eq_false_iff_not] at *; omega)
   ·go_wp2_with fail;go_ret;refine⟨aj ?_,HB.out⟩;rw[<-HR.out];exact (Np.bO ⟨H6.out,λj g hg=>HA.out j g (by have:=(cQ.1 hg).1; omega) hg⟩).symm
 ·have h6':6<l.length:=by omega
  have HF:Hid (r=false):=jq (by rw[<-HR.out]; exact Np.aP λhf=>h6 hf.1);clear h6;go_enter func167,ntmps167;go_wp2_with fail;go_ret;exact⟨aj HF.out.symm,vQ _ _⟩
theorem Ma(s:ByteArray)(hs:s.size<=140737488355328)(w:World) :
 Calls prog 163 #[.string s,.string ⟨#[42]⟩] w λe w'=>e = .returned (.bool (Np.fp s.data.toList))/\w=w':=by
 have h1:1<=s.size->((s.extract 0 1).toList == [42])=Np.fp s.data.toList:=Oc s;have h2:s.size<1->Np.fp s.data.toList=false:=λh=>by
  have:s.data.toList = []:=rQ (by rw[bn]; omega)
  rw[this]; rfl
 have H1:=jq h1;have H2:=jq h2;clear h1 h2;go_enter func163,ntmps163;go_wp2
 ·go_ret;exact⟨aj (H1.out (by omega)),rfl⟩
 ·go_ret;exact⟨aj (H2.out (by omega)).symm,rfl⟩
def pF(l:List Np.Signed)(k:Nat):Option Np.DSet:=(l.take k).getLast?.map (·.set)
theorem Dn{l:List Np.Signed}{k:Nat}{x:Np.Signed}(h:l[k]?=some x):pF l (k+1)=some x.set:=by
 obtain⟨hl,rfl⟩:=cQ.1 h;unfold pF;rw[fQ hl,List.getLast?_append]; rfl
theorem Om{apex:List UInt8}{l:List Np.Signed}{k:Nat}{x:Np.Signed}(h:l[k]?=some x)(p:Option Np.DSet) :
 Np.kc apex p (l.drop k)=((Np.aG x.set.name&&Np.bG x.set.name apex)&&Np.ee x.set&&(match p with | none=>true | some q=>decide (Np.io q x.set<0))&&Np.kc apex (some x.set) (l.drop (k+1))):=by
 obtain⟨hl,rfl⟩:=cQ.1 h;rw[sQ hl]
 cases p <;> rfl
def ZY(w1:World)(apex:List UInt8)(l:List Np.Signed)(i:Value)(wr:World):Prop:=
 ∃ k:Nat,k<=l.length/\i = .int .i64 k/\Below w1.heap.size w1 wr/\Hid (∀ j x,j<k->l[j]?=some x->Np.ee x.set=true)/\Hid (Np.kc apex none l=Np.kc apex (pF l k) (l.drop k))
theorem TX(a:ByteArray)(ha:a.size<=140737488355328)(v:Value)(l:List Np.Signed)(cu:l.length<=20000)(w:World)(hR:iW w w.heap.size)(hd:SlR bK 5 w w.heap.size v l) :
 Calls prog 101 #[.agg #[.string a,v]] w λe w'=>e = .returned (.bool (Np.fm ⟨a.data.toList,l⟩))/\Below w.heap.size w w':=by
 have HR:=jq hR;have HD:=jq hd;obtain⟨A,c,rfl,bC,bH,-⟩:=hd;clear hR;have HW:Hid (∀ o,Below w.heap.size w (w.alloc o)):=jq (λo=>(vQ _ w).alloc (bQ _) _);go_enter func101,ntmps101;go_wp2_with fail;refine (nameValid_any _ ha _).mono ?_;rintro e w1 ⟨rfl,hb⟩;have c0:w1.cell? ⟨w.heap.size,0,none⟩=some (.string a):=by rw[hb.cell (by simp)]; go_simp
 have c1:w1.cell? ⟨w.heap.size,1,none⟩=some (.slice A l.length c):=by rw[hb.cell (by simp)]; go_simp
 have fh:w.heap.size<w1.heap.size:=by have:=hb.size; simp at this; omega
 have aF:=jq ((HW.out _).trans (hb.mono (by simp)));clear hb
 cases rx:Np.aG a.data.toList with
 | false=>
  have HF:Hid (Np.fm ⟨a.data.toList,l⟩=false):=jq (by unfold Np.fm; rw[rx]; rfl);clear rx;go_wp2_with fail;go_ret;exact⟨aj HF.out.symm,aF.out⟩
 | true=>
  have zt:=jq rx;clear rx
  cases sm:Np.fp a.data.toList with
  | true=>
   have HF:Hid (Np.fm ⟨a.data.toList,l⟩=false):=jq (by unfold Np.fm; rw[sm]; simp);go_wp2_with (go_at_call 163; refine (Ma a ha _).mono ?_; rintro e w' ⟨rfl,rfl⟩);go_ret;exact⟨aj HF.out.symm,aF.out⟩
  | false=>
   have HF:Hid (Np.fm ⟨a.data.toList,l⟩=Np.kc a.data.toList none l):=jq (by unfold Np.fm; rw[sm,zt.out]; simp);go_wp2_with (go_at_call 163; refine (Ma a ha _).mono ?_; rintro e w' ⟨rfl,rfl⟩);clear sm;go_loopw [30] (λi wr=>ZY w1 a.data.toList l i wr) (λi _=>l.length - (intOf i).toNat)
   case atStart=>exact⟨0,jQ _,rfl,vQ _ _,jq (λj x hj=>by omega),jq rfl⟩
   case round=>
    obtain⟨k,hk,rfl,aw,HV,HG⟩:=hrel;by_cases ab:k<l.length
    ·have mj:Below w.heap.size w wr:=aF.out.trans (aw.mono (by omega));have ac:=aQ ab;obtain⟨b,o,c',sn,dv,sv,hA,bg,_,az,an,bd,aL,e0,e1,e2,e3,e4⟩:=eT (HD.out.keep aV mj) ac
     cases hA
     generalize hx:l[k]=x at *;clear hx;obtain⟨Ad,cd,rfl,Jm,hld⟩:=ag bd;obtain⟨As,cs,rfl,hcs,hls⟩:=ag aL;have d0:wr.cell? ⟨w.heap.size,0,none⟩=some (.string a):=by rw[aw.cell (by simpa using fh)]; exact c0
     have d1:wr.cell? ⟨w.heap.size,1,none⟩=some (.slice (some ⟨b,o,none⟩) l.length c):=by rw[aw.cell (by simpa using fh)]; exact c1
     have dF:w.heap.size<wr.heap.size:=by have:=aw.size; omega
     have lZ:=jq bd;have HX:=jq ac;have aS:=jq az;have ay:=jq aw;have za:=jq mj;have xi:=jq (HG.out.trans (Om ac (pF l k)));clear bd aL ac az aw mj c0 c1;go_wp2_with fail;have ni:Below wr.heap.size wr (wr.alloc (.cells #[.string sn,.int .i64 x.set.type,.int .i64 x.set.life,.slice Ad x.set.data.length cd,.slice As x.sigs.length cs] 68)):=(vQ _ _).alloc (bQ _) _;have p0:=World.cell?_alloc_new wr #[.string sn,.int .i64 x.set.type,.int .i64 x.set.life,.slice Ad x.set.data.length cd,.slice As x.sigs.length cs] 68 0;have p1:=World.cell?_alloc_new wr #[.string sn,.int .i64 x.set.type,.int .i64 x.set.life,.slice Ad x.set.data.length cd,.slice As x.sigs.length cs] 68 1;have mv:wr.heap.size<(wr.alloc (.cells #[.string sn,.int .i64 x.set.type,.int .i64 x.set.life,.slice Ad x.set.data.length cd,.slice As x.sigs.length cs] 68)).heap.size:=by simp
     generalize wr.alloc (.cells #[.string sn,.int .i64 x.set.type,.int .i64 x.set.life,.slice Ad x.set.data.length cd,.slice As x.sigs.length cs] 68)=wa at ni p0 p1 mv |-;have ei:=jq ni;have xH:=jq (za.out.trans (ni.mono (by omega)));replace p0:wa.cell? ⟨wr.heap.size,0,none⟩=some (.string sn):=p0;replace p1:wa.cell? ⟨wr.heap.size,1,none⟩=some (.int .i64 x.set.type):=p1;replace d0:wa.cell? ⟨w.heap.size,0,none⟩=some (.string a):=by rw[ni.cell (by simpa using dF)]; exact d0
     replace d1:wa.cell? ⟨w.heap.size,1,none⟩=some (.slice (some ⟨b,o,none⟩) l.length c):=by rw[ni.cell (by simpa using dF)]; exact d1
     clear ni e0 e1 e2 e3 e4;refine (Mi sn an _ _ _ x.set.data _ ((HR.out.keep xH.out).more (by omega)) ((lZ.out.keep cL (ei.out.mono (by omega))).more dp (by omega))).mono ?_;have uD:(⟨sn.data.toList,x.set.type,x.set.life,x.set.data⟩:Np.DSet)=x.set:=by rw[aS.out]
     rw[uD];clear uD;rintro e w2 ⟨rfl,aa⟩;have aN:wr.heap.size<w2.heap.size:=by have:=aa.size; omega
     have aFZ:w.heap.size<w2.heap.size:=by omega
     replace d0:w2.cell? ⟨w.heap.size,0,none⟩=some (.string a):=by rw[aa.cell (by simp; omega)]; exact d0
     replace d1:w2.cell? ⟨w.heap.size,1,none⟩=some (.slice (some ⟨b,o,none⟩) l.length c):=by rw[aa.cell (by simp; omega)]; exact d1
     replace p0:w2.cell? ⟨wr.heap.size,0,none⟩=some (.string sn):=by rw[aa.cell (by simpa using mv)]; exact p0
     replace p1:w2.cell? ⟨wr.heap.size,1,none⟩=some (.int .i64 x.set.type):=by rw[aa.cell (by simpa using mv)]; exact p1
     have ak:=jq (xH.out.trans (aa.mono (by omega)));have aUZ:=jq (ei.out.trans (aa.mono (by omega)));clear aa
     cases fZ:Np.ee x.set with
     | false=>
      have lh:=jq fZ;clear fZ;go_wp2_with fail;go_ret;refine⟨aj ?_,ak.out⟩;rw[HF.out,xi.out,lh.out,Bool.and_false]; rfl
     | true=>
      have lh:=jq fZ;have lT:Np.aG sn.data.toList=true:=by rw[aS.out]; exact Dp fZ
      have iO:=jq lT;have CH:∀ j y,j<k+1->l[j]?=some y->Np.ee y.set=true:=λj y hj hy=>by
       by_cases e:j=k
       ·subst e; rw[HX.out] at hy; cases hy; exact fZ
       ·exact HV.out j y (by omega) hy
      have rr:=jq CH;clear fZ lT CH;go_wp2_with fail;refine (GW sn a an ha _ iO.out zt.out).mono ?_;rintro e w3 ⟨rfl,ah⟩;have dP:wr.heap.size<w3.heap.size:=by have:=ah.size; omega
      have aQX:w.heap.size<w3.heap.size:=by omega
      replace d1:w3.cell? ⟨w.heap.size,1,none⟩=some (.slice (some ⟨b,o,none⟩) l.length c):=by rw[ah.cell (by simp; omega)]; exact d1
      replace p0:w3.cell? ⟨wr.heap.size,0,none⟩=some (.string sn):=by rw[ah.cell (by simpa using aN)]; exact p0
      replace p1:w3.cell? ⟨wr.heap.size,1,none⟩=some (.int .i64 x.set.type):=by rw[ah.cell (by simpa using aN)]; exact p1
      have av:=jq (ak.out.trans (ah.mono (by omega)));have Qv:=jq (aUZ.out.trans (ah.mono (by omega)));clear ah d0
      cases gl:Np.bG sn.data.toList a.data.toList with
      | false=>
       have BR:=jq gl;clear gl;go_wp2_with fail;go_ret;refine⟨aj ?_,av.out⟩;rw[HF.out,xi.out,<-aS.out,iO.out,BR.out]; rfl
      | true=>
       have ck:=jq (show Np.kc a.data.toList none l=((match pF l k with | none=>true | some q=>decide (Np.io q x.set<0))&&Np.kc a.data.toList (pF l (k+1)) (l.drop (k+1))) by
        rw[xi.out,<-aS.out,iO.out,gl,lh.out,Dn HX.out]; rfl)
       clear gl;by_cases bW:k=0
       ·subst bW;go_wp2_with fail;go_roundw
        case rel=>exact⟨1,by omega,by go_num,ay.out.trans (Qv.out.mono ay.out.size),rr,jq (by rw[ck.out]; rfl)⟩
        case measure=>simp[intOf] <;> omega
       ·obtain⟨i,rfl⟩:∃ i,k=i+1:=⟨k - 1,by omega⟩;have sk:=aQ (show i<l.length by omega);obtain⟨b',o',c'',sq,dq,sg,pZ,xP,_,ll,Tj,Bg,_,f0,f1,f2,f3,_⟩:=eT ((HD.out.keep aV av.out)) sk
        cases pZ
        have CX:=Dp (HV.out i l[i] (by omega) sk);generalize hy:l[i]=y at *;clear hy;obtain⟨Aq,cq,rfl,hcq,QI⟩:=ag Bg;have zf:((((i+1:Nat):Int)) == 0)=false:=by simp; omega
        have HVY:Hid (Np.aG sq.data.toList=true):=jq (by rw[ll]; exact CX);have HCV:Hid (Np.fI (sq.data.toList,y.set.type) (sn.data.toList,x.set.type)=Np.io y.set x.set):=jq (by rw[ll,aS.out,Np.GO]; rfl);have vV:=jq (Dn sk);clear Bg ll sk CX;have bjZ:b<w3.heap.size:=by omega
        have al:IntKind.i64.wrap (((i+1:Nat):Int) - 1)=(i:Int):=by rw[IntWalk.i64_in _ (by omega)]; omega
        have nj:(0:Int)<=(i:Int):=by omega
        have sK:(i:Int)<(l.length:Int):=by omega
        have pX:Hid (∀ o,Below w3.heap.size w3 (w3.alloc o)):=jq (λo=>(vQ _ _).alloc (bQ _) _);go_wp2_with fail;refine (Mb sq sn Tj an _ _ HVY.out iO.out _).mono ?_;rw[HCV.out];rintro e w4 ⟨rfl,am⟩;have bD:=jq ((pX.out _).trans (am.mono (by simp)));clear am;by_cases gG:Np.io y.set x.set<0
        ·have lJ:=jq (uQ gG);have Lv:¬ (0<=Np.io y.set x.set):=by omega
         clear gG;go_wp2_with fail;go_roundw
         case rel=>
          refine⟨i+1+1,by omega,by go_num,ay.out.trans ((Qv.out.trans (bD.out.mono (by omega))).mono ay.out.size),rr,jq ?_⟩;rw[ck.out,vV.out];simp only[lJ.out,Bool.true_and]
         case measure=>simp[intOf] <;> omega
        ·have lJ:=jq (tQ gG);have Lv:0<=Np.io y.set x.set:=by omega
         clear gG;go_wp2_with fail;go_ret;refine⟨aj ?_,av.out.trans (bD.out.mono (by omega))⟩;rw[HF.out,ck.out,vV.out];simp only[lJ.out,Bool.false_and]
    ·go_wp2_with fail;go_ret;refine⟨aj ?_,aF.out.trans (aw.mono (by omega))⟩;rw[HF.out,HG.out,List.drop_eq_nil_of_le (by omega)];rfl
theorem X6(s1 s2:ByteArray)(h1:s1.size<=140737488355328)(h2:s2.size<=140737488355328)(t1 l1 t2:Int)(A1 A2:Option Addr)(m1 c1 m2 c2:Nat)(n1:Np.aG s1.data.toList=true)(n2:Np.aG s2.data.toList=true)(w:World) :
 Calls prog 224 #[.agg #[.string s1,.int .i64 t1,.int .i64 l1,.slice A1 m1 c1,.slice A2 m2 c2],.agg #[.string s2,.int .i64 t2]] w
  λe w'=>e = .returned (.int .i64 (Np.fI (s1.data.toList,t1) (s2.data.toList,t2)))/\Below w.heap.size w w':=by
 have HW:Hid (∀ o o',Below w.heap.size w ((w.alloc o).alloc o')):=jq (λo o'=>((vQ _ w).alloc (bQ _) _).alloc (by simp) _);have N1:=jq n1;have N2:=jq n2;clear n1 n2;go_enter func224,ntmps224;go_wp2_with fail;refine (Mb s1 s2 h1 h2 _ _ N1.out N2.out _).mono ?_;rintro e w1 ⟨rfl,hb⟩;have HB:=jq ((HW.out _ _).trans (hb.mono (by simp; omega)));clear hb;go_wp2_with fail;go_ret;exact⟨rfl,HB.out⟩
def Np.Ax(l:List Np.Signed)(key:List UInt8×Int):Nat:=l.countP λx=>decide (Np.fI (Np.fd x.set) key<0)
def Np.vC(l:List Np.Signed):Prop:=l.Pairwise λa b=>Np.fI (Np.fd a.set) (Np.fd b.set)<0
theorem XD{l:List Np.Signed}{key:List UInt8×Int}{i:Nat}(hi:i<=l.length)(h1:∀ j x,j<i->l[j]?=some x->Np.fI (Np.fd x.set) key<0)(h2:∀ j x,i<=j->l[j]?=some x->¬ Np.fI (Np.fd x.set) key<0):Np.Ax l key=i:=by
 unfold Np.Ax;have e:=List.take_append_drop i l;rw[<-e,List.countP_append,List.countP_eq_length.2,List.countP_eq_zero.2]
 ·rw[List.length_take]; omega
 ·intro x hx;obtain⟨j,hj,rfl⟩:=nQ.1 hx;rw[List.getElem_drop];simpa using h2 (i+j) _ (by omega) (aQ _)
 ·intro x hx;obtain⟨j,hj,rfl⟩:=nQ.1 hx;rw[List.getElem_take];rw[List.length_take] at hj;simpa using h1 j _ (by omega) (aQ _)
theorem X4{l:List Np.Signed}(hs:Np.vC l){key:List UInt8×Int}{i:Nat}(h1:∀ j x,j<i->l[j]?=some x->Np.fI (Np.fd x.set) key<0)(h2:∀ j x,i<=j->l[j]?=some x->¬ Np.fI (Np.fd x.set) key<0):(∃ x∈l,Np.fd x.set=key)↔∃ x,l[i]?=some x/\Np.fI (Np.fd x.set) key=0:=by
 constructor
 ·rintro⟨x,hx,rfl⟩;obtain⟨j,hj,rfl⟩:=nQ.1 hx;have a2Q:=Np.yz.self (Np.fd l[j].set);rcases Nat.lt_trichotomy j i with h | h | h
  ·have:=h1 j _ h (aQ hj)
   omega
  ·subst h;exact⟨_,aQ hj,a2Q⟩
  ·exact absurd (List.pairwise_iff_getElem.1 hs i j (by omega) hj h) (h2 i _ (bQ _) (aQ (by omega)))
 ·rintro⟨x,hx,h⟩;exact⟨x,gQ hx,Np.yz.zero _ _ h⟩
theorem G0{l:List Np.Signed}(hs:Np.vC l){i j:Nat}{x y:Np.Signed}(hx:l[i]?=some x)(hy:l[j]?=some y)(h:i<j):Np.fI (Np.fd x.set) (Np.fd y.set)<0:=by
 obtain⟨hi,rfl⟩:=cQ.1 hx;obtain⟨hj,rfl⟩:=cQ.1 hy;exact List.pairwise_iff_getElem.1 hs i j hi hj h
theorem Xl{z:Np.Zone}(h:Np.InOrder z):Np.vC z.sets:=by
 have:=h.order
 rw[List.pairwise_map] at this;exact this.imp λh=>by rw[<-Np.GO]; exact h
def Np.kf(l:List Np.Signed)(n:List UInt8)(t:Int):Prop:=∃ x∈l,x.set.name=n/\x.set.type=t
theorem WL{l:List Np.Signed}{n:List UInt8}{t:Int} : Np.kf l n t↔∃ x∈l,Np.fd x.set=(n,t):=by
 unfold Np.kf Np.fd;simp only[Prod.mk.injEq]
theorem VM(v:Value)(l:List Np.Signed)(cu:l.length<=20000)(hv:∀ x∈l,Np.aG x.set.name=true)(hs:Np.vC l)(q:ByteArray)(hq:q.size<=140737488355328)(qt:Int)(nq:Np.aG q.data.toList=true)(w:World)(hd:SlR bK 5 w w.heap.size v l) :
 Calls prog 223 #[v,.agg #[.string q,.int .i64 qt],.func (.func 224) #[] #[]] w
  λe w'=>e = .returned (.tuple #[.int .i64 (Np.Ax l (q.data.toList,qt)),.bool (Np.yes (Np.kf l q.data.toList qt))])/\Below w.heap.size w w':=by
 obtain⟨pl,lu⟩:∃ pl,Np.Ax l (q.data.toList,qt)=pl:=⟨_,rfl⟩;obtain⟨r,hr⟩:∃ r,Np.yes (Np.kf l q.data.toList qt)=r:=⟨_,rfl⟩;rw[lu,hr];have jD:=jq lu;have HR:=jq hr;have HV:=jq hv;have HS:=jq hs;have HD:=jq hd;have NQ:=jq nq;have eg:∀ args w,(callFunc 224 args).run prog w = .ok (.enter 224 args) w:=enters_of func224 (by kernel_rfl) rfl;obtain⟨A,c,rfl,bC,bH⟩:=ag hd;clear lu hr hv hs hd nq;have HW:Hid (∀ o,Below w.heap.size w (w.alloc o)):=jq (λo=>(vQ _ w).alloc (bQ _) _);go_enter func223,ntmps223;go_wp2_with fail;have c0:=World.cell?_alloc_new w #[.string q,.int .i64 qt] 84 0;have c1:=World.cell?_alloc_new w #[.string q,.int .i64 qt] 84 1;have fh:w.heap.size<(w.alloc (.cells #[.string q,.int .i64 qt] 84)).heap.size:=by simp
 have aF:=jq (HW.out (.cells #[.string q,.int .i64 qt] 84));generalize w.alloc (.cells #[.string q,.int .i64 qt] 84)=w1 at c0 c1 fh aF |-;replace c0:w1.cell? ⟨w.heap.size,0,none⟩=some (.string q):=c0;replace c1:w1.cell? ⟨w.heap.size,1,none⟩=some (.int .i64 qt):=c1;go_loopg [9,10] l.length (λg s7 s8 wr=>∃ lo hi:Nat,s7 = .int .i64 lo/\s8 = .int .i64 hi/\lo<=hi/\hi<=l.length/\hi - lo<=g/\Hid (Below w1.heap.size w1 wr)/\Hid ((∀ j x,j<lo->l[j]?=some x->Np.fI (Np.fd x.set) (q.data.toList,qt)<0)/\(∀ j x,hi<=j->l[j]?=some x->¬ Np.fI (Np.fd x.set) (q.data.toList,qt)<0)))
 case atStart=>exact⟨0,l.length,rfl,rfl,jQ _,bQ _,by omega,jq (vQ _ _),jq ⟨λj x hj=>by omega,λj x hj hx=>by have:=(cQ.1 hx).1; omega⟩⟩
 case round=>
  obtain⟨lo,hi,rfl,rfl,hlh,hin,hg,HB,HI⟩:=hrel;have aKY:=HB.out.size;have d0:wr.cell? ⟨w.heap.size,0,none⟩=some (.string q):=by rw[HB.out.cell (by simpa using fh)]; exact c0
  have d1:wr.cell? ⟨w.heap.size,1,none⟩=some (.int .i64 qt):=by rw[HB.out.cell (by simpa using fh)]; exact c1
  have dF:w.heap.size<wr.heap.size:=by omega
  have aD:=jq (aF.out.trans (HB.out.mono (by omega)));have kq:∀ (g:bE wr) (p:Addr),p.block<wr.heap.size->g.w.cell? p=wr.cell? p:=λg p h=>g.cell p h;have eM:=HD.out.keep aV aD.out;have iC:Hid (∀ (k:Nat) (x:Np.Signed),l[k]?=some x->∃ (b o c':Nat) (s:ByteArray) (Ad:Option Addr) (md cd:Nat) (As:Option Addr) (ms cs:Nat),A=some ⟨b,o,none⟩/\b<wr.heap.size/\wr.cell? ⟨b,o+k * 5,none⟩=some (.string s)/\wr.cell? ⟨b,o+k * 5+1,none⟩=some (.int .i64 x.set.type)/\wr.cell? ⟨b,o+k * 5+2,none⟩=some (.int .i64 x.set.life)/\wr.cell? ⟨b,o+k * 5+3,none⟩=some (.slice Ad md cd)/\wr.cell? ⟨b,o+k * 5+4,none⟩=some (.slice As ms cs)/\
   ∀ g:bE wr,Calls prog 224 #[.agg #[.string s,.int .i64 x.set.type,.int .i64 x.set.life,.slice Ad md cd,.slice As ms cs],.agg #[.string q,.int .i64 qt]] g.w λe w'=>e = .returned (.int .i64 (Np.fI (Np.fd x.set) (q.data.toList,qt)))/\Below g.w.heap.size g.w w'):=jq (λk x hx=>by
   obtain⟨b,o,c',s,dv,sv,hA,bg,_,az,an,bd,aL,e0,e1,e2,e3,e4⟩:=eT eM hx
   cases hA
   obtain⟨Ad,cd,rfl,_,_⟩:=ag bd;obtain⟨As,cs,rfl,_,_⟩:=ag aL;refine⟨b,o,c,s,Ad,_,cd,As,_,cs,rfl,by omega,e0,e1,e2,e3,e4,λg=>?_⟩
   have:=X6 s q an hq x.set.type x.set.life qt Ad As x.set.data.length cd x.sigs.length cs (by rw[az]; exact HV.out x (gQ hx)) NQ.out g.w
   rw[az] at this;exact this)
  clear eM c0 c1;by_cases ab:lo<hi
  ·obtain⟨k,hk⟩:∃ k,(lo+hi) / 2=k:=⟨_,rfl⟩;have mV:k<l.length:=by omega
   have ac:=aQ mV;obtain⟨b,o,c',s,Ad,md,cd,As,ms,cs,rfl,aw,e0,e1,e2,e3,e4,bT⟩:=iC.out k _ ac;generalize hx:l[k]=x at *;have HX:=jq ac;have mP:=jq bT;have hkI:((lo:Int)+(hi:Int)) / 2=(k:Int):=by omega
   have HK:=jq hk;have bW:(0:Int)<=(k:Int):=by omega
   have bV:(k:Int)<(l.length:Int):=by omega
   clear ac bT hx hk;by_cases hc:Np.fI (Np.fd x.set) (q.data.toList,qt)<0
   ·have HN:Hid (∀ j y,j<k+1->l[j]?=some y->Np.fI (Np.fd y.set) (q.data.toList,qt)<0):=jq (λj y hj hy=>by
     by_cases e:j=k
     ·subst e; rw[HX.out] at hy; cases hy; exact hc
     ·exact Np.yz.trans _ _ _ (G0 HS.out hy HX.out (by omega)) hc)
    have eB:decide (Np.fI (Np.fd x.set) (q.data.toList,qt)<0)=true:=by simpa using hc
    clear hc;go_wp2_with fail;refine en (by kernel_rfl) (by kernel_rfl) ?_
    repeat (go_big_quiet_step ((go_at_call 224; exact Calls.grow_of (mP.out _))))
    refine wpQuiet_nil ?_;rintro _ ⟨g,rfl⟩;go_wp2_with fail;go_roundg (hi - (k+1))
    case measure=>have:=HK.out; omega
    case rel=>exact⟨k+1,hi,by go_num,rfl,by have:=HK.out; omega,hin,bQ _,jq (HB.out.trans (g.below.mono (by omega))),jq ⟨HN.out,HI.out.2⟩⟩
   ·have HN:Hid (∀ j y,k<=j->l[j]?=some y->¬ Np.fI (Np.fd y.set) (q.data.toList,qt)<0):=jq (λj y hj hy ab=>by
     by_cases e:j=k
     ·subst e; rw[HX.out] at hy; cases hy; exact hc ab
     ·exact hc (Np.yz.trans _ _ _ (G0 HS.out HX.out hy (by omega)) ab))
    have eB:decide (Np.fI (Np.fd x.set) (q.data.toList,qt)<0)=false:=by simpa using hc
    clear hc;go_wp2_with fail;refine en (by kernel_rfl) (by kernel_rfl) ?_
    repeat (go_big_quiet_step ((go_at_call 224; exact Calls.grow_of (mP.out _))))
    refine wpQuiet_nil ?_;rintro _ ⟨g,rfl⟩;go_wp2_with fail;go_roundg (k - lo)
    case measure=>have:=HK.out; omega
    case rel=>exact⟨lo,k,rfl,by go_num,by have:=HK.out; omega,by omega,bQ _,jq (HB.out.trans (g.below.mono (by omega))),jq ⟨HI.out.1,HN.out⟩⟩
  ·obtain rfl:hi=lo:=by omega
   have HE:Hid (pl=hi):=jq (by rw[<-jD.out]; exact XD hin HI.out.1 HI.out.2);have HF:Hid (r=Np.yes (∃ x,l[hi]?=some x/\Np.fI (Np.fd x.set) (q.data.toList,qt)=0)):=jq (by rw[<-HR.out]; exact Np.tw (WL.trans (X4 HS.out HI.out.1 HI.out.2)));by_cases hn:hi<l.length
   ·have ac:=aQ hn;obtain⟨b,o,c',s,Ad,md,cd,As,ms,cs,rfl,aw,e0,e1,e2,e3,e4,bT⟩:=iC.out hi _ ac;generalize hx:l[hi]=x at *;have HX:=jq ac;have mP:=jq bT;have bW:(0:Int)<=(hi:Int):=by omega
    have bV:(hi:Int)<(l.length:Int):=by omega
    clear ac bT hx;by_cases hc:Np.fI (Np.fd x.set) (q.data.toList,qt)=0
    ·have HT:Hid (r=true):=jq (by rw[HF.out]; exact Np.bO ⟨x,HX.out,hc⟩);have eB:(Np.fI (Np.fd x.set) (q.data.toList,qt) == 0)=true:=by simpa using hc
     clear hc;go_wp2_with fail;refine en (by kernel_rfl) (by kernel_rfl) ?_
     repeat (go_big_quiet_step ((go_at_call 224; exact Calls.grow_of (mP.out _))))
     refine wpQuiet_nil ?_;rintro _ ⟨g,rfl⟩;go_wp2_with fail;go_ret2;exact⟨by rw[HE.out,HT.out]; rfl,aD.out.trans (g.below.mono (by omega))⟩
    ·have HT:Hid (r=false):=jq (by rw[HF.out]; exact Np.aP λ⟨y,hy,h0⟩=>by rw[HX.out] at hy; cases hy; exact hc h0);have eB:(Np.fI (Np.fd x.set) (q.data.toList,qt) == 0)=false:=by simpa using hc
     clear hc;go_wp2_with fail;refine en (by kernel_rfl) (by kernel_rfl) ?_
     repeat (go_big_quiet_step ((go_at_call 224; exact Calls.grow_of (mP.out _))))
     refine wpQuiet_nil ?_;rintro _ ⟨g,rfl⟩;go_wp2_with fail;go_ret2;exact⟨by rw[HE.out,HT.out]; rfl,aD.out.trans (g.below.mono (by omega))⟩
   ·have HT:Hid (r=false):=jq (by rw[HF.out]; exact Np.aP λ⟨y,hy,h0⟩=>by have:=(cQ.1 hy).1; omega);have aK:decide ((hi:Int)<(l.length:Int))=false:=by simp; omega
    have bk:decide (hi<l.length)=false:=by simp; omega
    go_wp2_with fail;refine en (by kernel_rfl) (by kernel_rfl) ?_
    repeat (go_big_quiet_step (fail))
    refine wpQuiet_nil ?_;rintro _ ⟨g,rfl⟩;go_wp2_with fail;go_ret2;exact⟨by rw[HE.out,HT.out]; rfl,aD.out.trans (g.below.mono (by omega))⟩
theorem OQ(a:ByteArray)(v:Value)(l:List Np.Signed)(cu:l.length<=20000)(hv:∀ x∈l,Np.aG x.set.name=true)(hs:Np.vC l)(q:ByteArray)(hq:q.size<=140737488355328)(qt:Int)(nq:Np.aG q.data.toList=true)(w:World)(hd:SlR bK 5 w w.heap.size v l) :
 Calls prog 165 #[.agg #[.string a,v],.agg #[.string q,.int .i64 qt]] w
  λe w'=>e = .returned (.tuple #[.int .i64 (Np.Ax l (q.data.toList,qt)),.bool (Np.yes (Np.kf l q.data.toList qt))])/\Below w.heap.size w w':=by
 have HV:=jq hv;have HS:=jq hs;have HD:=jq hd;have NQ:=jq nq;obtain⟨A,c,rfl,bC,bH⟩:=ag hd;have HW:Hid (∀ o o',Below w.heap.size w ((w.alloc o).alloc o')):=jq (λo o'=>((vQ _ w).alloc (bQ _) _).alloc (by simp) _);clear hv hs hd nq;go_enter func165,ntmps165;go_wp2_with fail;refine (VM _ l cu HV.out HS.out q hq qt NQ.out _ (HD.out.later aV bR (HW.out _ _))).mono ?_;rintro e w1 ⟨rfl,hb⟩;have HB:=jq ((HW.out _ _).trans (hb.mono (by simp; omega)));clear hb;go_wp2_with fail;go_ret2;exact⟨rfl,HB.out⟩
theorem T2(l:List UInt8):Np.be (l ++ [46])=Np.be l ++ [[]]:=Np.zR l []
theorem TM:∀ (l:List UInt8) (c:UInt8) (pre:List (List UInt8)) (x:List UInt8),c≠46->Np.be l=pre ++ [x]->Np.be (l ++ [c])=pre ++ [x ++ [c]]:=by
 intro l
 induction l with
 | nil=>
  intro c pre x hc h;have h2:([[]]:List (List UInt8))=pre ++ [x]:=h
  cases pre with
  | nil=>simp at h2; subst h2; simp[Np.be,hc]
  | cons a pre=>simp at h2
 | cons a r ih=>
  intro c pre x hc h;rw[List.cons_append];rw[Np.be] at h |-;by_cases ha:a=46
  ·rw[Qb ha] at h |-
   cases pre with
   | nil=>simp at h; exact absurd h.2 (Np.qo r)
   | cons b pre=>
    simp only[List.cons_append,List.cons.injEq] at h;rw[ih c pre x hc h.2,<-h.1]; rfl
  ·rw[Qc ha] at h |-;have hne:=Np.qo r
   cases hr:Np.be r with
   | nil=>exact absurd hr hne
   | cons y ys=>
    rw[hr] at h;simp only at h
    cases pre with
    | nil=>
     simp only[List.nil_append,List.cons.injEq] at h;obtain⟨rfl,rfl⟩:=h;rw[ih c [] y hc (by rw[hr]; rfl)]; rfl
    | cons b pre=>
     simp only[List.cons_append,List.cons.injEq] at h;obtain⟨rfl,rfl⟩:=h;rw[ih c (y::pre) x hc (by rw[hr]; rfl)]; rfl
def RSt(_:World)(_:Nat)(e:List Value)(x:List UInt8):Prop:=e = [aH x]
theorem DL:dK RSt:=λ_ _ _ _ _ h _=>h
theorem Oy:dV RSt:=λ_ _ _ _ _ h _=>h
def yx{α:Type}(R:World->Nat->List Value->α->Prop)(sz:Nat)(w:World)(xs:List α)(e:Ending)(w':World):Prop:=∃ v,e = .returned v/\SlR R sz w' w'.heap.size v xs/\Below w.heap.size w w'
theorem Vs{W:World}{base:Nat}{e:TypeId}{g cap n:Nat}{xs:List Value}(h:W.ownsRow base e 1 (.slice (some ⟨g,0,none⟩) n cap) n xs)(j:Nat)(hj:j<n)(u:Value) :
 W.cell? ⟨g,j,none⟩=xs[j]?/\W.frozen? ⟨g,j,none⟩=false/\g<W.heap.size/\base<=g/\(W.setCell ⟨g,j,none⟩ u).ownsRow base e 1 (.slice (some ⟨g,0,none⟩) n cap) n (xs.set j u):=by
 obtain⟨h1,h2⟩:=h;rcases h2 with ⟨h2,_⟩ | ⟨g',cap',cur,h2,hb,hg,hn,hm,hs,ht⟩
 ·cases h2
 ·simp only[Value.slice.injEq,Option.some.injEq,Addr.mk.injEq,and_true,true_and] at h2;obtain⟨rfl,rfl⟩:=h2;have ab:=(eQ.1 hg).1;refine⟨?_,?_,ab,hb,by simpa using h1,.inr ⟨g,cap,cur.setIfInBounds j u,rfl,hb,?_,hn,hm,by simpa using hs,?_⟩⟩
  ·rw[<-ht];simp only[World.cell?,hg,Option.isSome_none,Bool.false_eq_true,if_false,List.getElem?_take];rw[Qb (by omega)]; simp
  ·simp[World.frozen?,hg]
  ·simp only[World.setCell,Array.getElem?_modify,if_true,hg]; simp
  ·rw[<-ht,Array.toList_setIfInBounds,List.take_set]
theorem Tryz.infoStr:(prog.info? 9).map (λi=>(i.zero,i.size,i.bytes))=some (some (.string ⟨#[]⟩),1,16):=by kernel_rfl
def Zh(s:ByteArray)(w:World)(v i:Value)(wr:World):Prop:=
 ∃ (k:Nat) (pre:List (List UInt8)) (x:List UInt8),k<=s.size/\i = .int .i64 k/\Np.be (s.data.toList.take k)=pre ++ [x]/\pre.length<=k/\wr.ownsRow w.heap.size 9 1 v (pre.length+1) (pre.map aH ++ [aH x])/\Below w.heap.size w wr
theorem Yw(x:List UInt8)(s:ByteArray)(k:Nat)(hk:k<s.size):Value.string ((⟨x.toArray⟩:ByteArray)++s.extract k (k+1))=aH (x ++ [s[k]]):=by
 show Value.string _=Value.string _;congr 1;apply iV
 have:(s.extract k (k+1)).data.toList = [s[k]]:=by
  rw[Hq,GZ s k hk,List.drop_append_of_le_length (by rw[List.length_take,bn]; omega),List.drop_of_length_le (by rw[List.length_take,bn]; omega),List.nil_append]
 rw[ByteArray.data_append,Array.toList_append,this]
theorem Mg(s:ByteArray)(hs:s.size<=1000000)(w:World):Calls prog 79 #[.string s] w (yx RSt 1 w (Np.be s.data.toList)):=by
 obtain⟨i0,hi,ea,bI,aN⟩:=info_parts Tryz.infoStr;go_enter func79,ntmps79;go_wp2;go_loopw [3,4] (λv i wr=>Zh s w v i wr) (λ_ i _=>s.size - (intOf i).toNat)
 case atStart=>
  refine⟨0,[],[],jQ _,rfl,rfl,bQ _,⟨rfl,.inr ⟨w.heap.size,1,#[.string ⟨#[]⟩],rfl,bQ _,heap_alloc_new _ _,by simp,by simp[maxLen],rfl,rfl⟩⟩,(vQ _ _).alloc (bQ _) _⟩
 case round=>
  obtain⟨k,pre,x,hk,rfl,EE,lu,hown,hB⟩:=hrel;obtain⟨g,cap,rfl⟩:=ownsRow_succ hown;have an:=hB.size;have HB:=jq hB;have HO:=jq hown;have HS:=jq EE;clear hB hown EE;by_cases ab:k<s.size
  ·have hb:=yy s[k];have SJ:=GZ s k ab;have HT:=jq SJ;clear SJ;by_cases BX:(s[k].toNat:Int)=46
   ·have he:((s[k].toNat:Int) == 46)=true:=by simp[BX]
    have hc:s[k]=46:=by
     apply UInt8.toNat_inj.1
     have:s[k].toNat=46:=by omega
     rw[this]; rfl
    have HC:=jq hc;clear hc BX;go_wp2_with (at_builtin; refine wpList_append_own_at _ rfl _ _ 38 rfl w.heap.size 9 i0 (.string ⟨#[]⟩) 1 16 underlying38 hi ea bI aN rfl (by decide) _ _ _ rfl (HO.out.alloc _) ⟨wr.heap.size,0,none⟩ 1 1 [.string ⟨#[]⟩] rfl rfl (cell_one_new _ _ _) (by simp[Value.oneCell']) (by unfold maxLen; omega) (by omega) (by simp; omega) ?_; intro v1 w1 Rf re _ amK; have H1:=jq (And.intro Rf re); clear Rf re amK);go_roundw
    case rel=>
     obtain⟨o1,g1⟩:=H1.out;have nP:=(HO.out.lt g rfl).1;refine⟨k+1,pre ++ [x],[],by omega,by go_num,?_,by simp; omega,?_,?_⟩
     ·rw[HT.out,HC.out,T2,HS.out]
     ·simpa using o1
     ·exact (HB.out.alloc (by omega) _).grown g1 (by simp; omega) (λj hj=>by have e:g=j:=Option.some.inj hj; omega)
    case measure=>simp[intOf] <;> omega
   ·have he:((s[k].toNat:Int) == 46)=false:=by simp[BX]
    have hc:s[k]≠46:=λe=>BX (by rw[e]; rfl);have HC:=jq hc;clear hc BX;obtain⟨q1,q2,q3,q4,q5⟩:=Vs HO.out pre.length (by omega) (aH (x ++ [s[k]]));have hcell:wr.cell? ⟨g,pre.length,none⟩=some (aH x):=by rw[q1]; simp
    have KJ:=jq q5;have pu:=Yw x s k ab;clear q1 q5;have ue:x.length<=k:=by
     have h1:=Np.Gi (l:=s.data.toList.take k) (y:=x) (by rw[HS.out]; simp);rw[List.length_take] at h1; omega
    have iG:¬ 9223372036854775807<x.length+(min (k+1) s.size - k):=by omega
    have al:IntKind.i64.wrap (pre.length:Int)=pre.length:=IntWalk.i64_in _ (by omega);have ai:IntKind.i64.wrap ((k:Int)+1)=k+1:=IntWalk.i64_in _ (by omega);have yJ:(0:Int)<=(pre.length:Int):=by omega
    have Js:(pre.length:Int)<(pre.length:Int)+1:=by omega
    have bW:(0:Int)<=(k:Int):=by omega
    have bV:(k:Int)+1<=(s.size:Int):=by omega
    have kW:((k:Int)+1).toNat=k+1:=by omega
    have no:(0:Int)<=(k:Int)+1:=by omega
    have kB:(k:Int)<=(k:Int)+1:=by omega
    go_wp2_with fail;refine LP 17 (by kernel_rfl) (by kernel_rfl) ?_;simp only[List.take_succ_cons,List.take_zero,List.drop_succ_cons,List.drop_zero]
    iterate 17 still_step
    refine wpStill_nil ?_;go_wp2_with fail;go_roundw
    case rel=>
     refine⟨k+1,pre,x ++ [s[k]],by omega,by go_num,?_,by omega,?_,?_⟩
     ·rw[HT.out]; exact TM _ _ _ _ HC.out HS.out
     ·have h5:(wr.setCell ⟨g,pre.length,none⟩ (aH (x ++ [s[k]]))).ownsRow w.heap.size 9 1 (.slice (some ⟨g,0,none⟩) (pre.length+1) cap) (pre.length+1) (pre.map aH ++ [aH (x ++ [s[k]])]):=by
       have:=KJ.out
       simpa using this
      exact h5
     ·exact (HB.out.setCell (p:=⟨g,pre.length,none⟩) q4 _).drew
    case measure=>simp[intOf] <;> omega
  ·go_wp2_with fail;go_ret;refine⟨_,rfl,?_,HB.out⟩;have ax:Np.be s.data.toList=pre ++ [x]:=by have:=HS.out; rwa [DK s k (by omega)] at this
   rw[ax];refine GF (sz:=1) (e:=9) (base:=w.heap.size) (λx=>[aH x]) (λ_ _=>rfl) ?_ (by simp; omega) (λ_ _=>rfl)
   have:=HO.out
   simpa [OF] using this
theorem Yz{α:Type}{R:World->Nat->List Value->α->Prop}{sz:Nat}(w:World)(B:Nat):SlR R sz w B (.slice none 0 0) []:=⟨none,0,rfl,by simp,by simp,λi x h=>by simp at h⟩
theorem zS(s:ByteArray)(hs:s.size<=1000000)(w:World):Calls prog 162 #[.string s] w (yx RSt 1 w (Np.eW s.data.toList)):=by
 by_cases h:s.data.toList = [46]
 ·have he:(s.toList == [46])=true:=by rw[dQ,h]; rfl
  have hp:Np.eW s.data.toList = []:=by rw[Np.eW,Qb h]
  rw[hp];clear h hp;go_enter func162,ntmps162;go_wp2_with fail;go_ret;exact⟨_,rfl,Yz _ _,vQ _ _⟩
 ·have he:(s.toList == [46])=false:=by rw[dQ]; simpa using h
  have hp:Np.eW s.data.toList=Np.be s.data.toList:=by rw[Np.eW,Qc h]
  rw[hp];clear h hp;go_enter func162,ntmps162;go_wp2_with fail;refine (Mg s hs _).mono ?_;rintro e w1 ⟨v,rfl,hv,hb⟩;have HV:=jq (And.intro hv hb);clear hv hb;go_wp2_with fail;go_ret;exact⟨_,rfl,HV.out⟩
theorem AH{w:World}{B:Nat}{v:Value}{xs:List (List UInt8)}(h:SlR RSt 1 w B v xs){k:Nat}{x:List UInt8}(hx:xs[k]?=some x):∃ b o c,v = .slice (some ⟨b,o,none⟩) xs.length c/\b<B/\xs.length<=c/\w.cell? ⟨b,o+k,none⟩=some (aH x):=by
 obtain⟨A,c,rfl,hc,_,he⟩:=h;obtain⟨b,o,e,rfl,hb,_,hce,rfl⟩:=he k x hx;exact⟨b,o,c,rfl,hb,hc,by have:=hce 0 _ rfl; simpa using this⟩
structure Turned(b:Nat)(w w':World):Prop where
 os:w'.os=w.os
 tape:w'.tape=w.tape
 output:w'.output=w.output
 size:w'.heap.size=w.heap.size
 block:∀ i,i≠b->w'.heap[i]?=w.heap[i]?
theorem Turned.refl(b:Nat)(w:World):Turned b w w:=⟨rfl,rfl,rfl,rfl,λ_ _=>rfl⟩
theorem Turned.trans{b:Nat}{u v w:World}(h:Turned b u v)(k:Turned b v w):Turned b u w:=⟨k.os.trans h.os,k.tape.trans h.tape,k.output.trans h.output,k.size.trans h.size,λi hi=>(k.block i hi).trans (h.block i hi)⟩
theorem Turned.cell{b:Nat}{w w':World}(h:Turned b w w'){p:Addr}(hp:p.block≠b):w'.cell? p=w.cell? p:=by
 unfold World.cell?;rw[h.block _ hp]
theorem Turned.grown{b:Nat}{w w':World}(h:Turned b w w'):w.grownBy w' (some b):=⟨h.os,h.tape,h.output,by rw[h.size]; exact bQ _,λi _ hne=>h.block i (λe=>hne (by rw[e]))⟩
theorem Turned.below{b n:Nat}{w w':World}(h:Turned b w w')(hn:n<=b):Below n w w':=⟨h.os,h.tape,h.output,by rw[h.size]; exact bQ _,λi hi=>h.block i (by omega)⟩
end
section
open Go.RowKit Go.MapKept
def dW(r:Nat)(kvs:List (List UInt8×Value))(w:World):Prop:=∃ es c,w.heap[r]?=some (.map es c)/\es.toList.map (λe=>(e.key,e.val))=kvs.map λp=>(aH p.1,p.2)
theorem dW.lt{r:Nat}{kvs:List (List UInt8×Value)}{w:World}(h:dW r kvs w):r<w.heap.size:=by
 obtain⟨es,c,h,_⟩:=h;exact (eQ.1 h).1
theorem dW.keep{r:Nat}{kvs:List (List UInt8×Value)}{w w':World}{n:Nat}(h:dW r kvs w)(hb:Below n w w')(hn:r<n):dW r kvs w':=by
 obtain⟨es,c,h,h2⟩:=h;exact⟨es,c,(hb.block r hn).trans h,h2⟩
theorem dW.made(w:World):dW w.heap.size [] (w.alloc (.map #[] 0)):=⟨#[],0,heap_alloc_new _ _,rfl⟩
theorem Oq(x y:List UInt8):((⟨x.toArray⟩:ByteArray) == ⟨y.toArray⟩)=(x == y):=by
 have h:((⟨x.toArray⟩:ByteArray) == ⟨y.toArray⟩)=(x.toArray == y.toArray):=rfl;rw[h,List.beq_toArray]
theorem Dm(x:List UInt8):∀ (es:List MapEntry) (kvs:List (List UInt8×Value)) (i:Nat),es.map (λe=>(e.key,e.val))=kvs.map (λp=>(aH p.1,p.2))->
 (∀ v,kvs.lookup x=some v->∃ j,Instr.findNow .string (aH x) es i=some (some (j,v)))/\(kvs.lookup x=none->Instr.findNow .string (aH x) es i=some none):=by
 intro es
 induction es with
 | nil=>
  intro kvs i h
  cases kvs with
  | nil=>exact⟨λv hv=>by simp at hv,λ_=>rfl⟩
  | cons=>simp at h
 | cons e es ih=>
  intro kvs i h
  cases kvs with
  | nil=>simp at h
  | cons p kvs=>
   obtain⟨y,u⟩:=p;simp only[List.map_cons,List.cons.injEq,Prod.mk.injEq] at h;obtain⟨⟨h1,h2⟩,h3⟩:=h;have hs:Instr.sameNow .string (aH x) e.key=some (x == y):=by rw[h1]; simp only[Instr.sameNow]; rw[Oq]
   by_cases cI:x=y
   ·subst cI;have hb:(x == x)=true:=by simp
    rw[hb] at hs;refine⟨λv hv=>⟨i,?_⟩,λhv=>?_⟩
    ·rw[List.lookup_cons_self] at hv;simp only[Instr.findNow,hs]
     cases hv
     rw[h2]
    ·rw[List.lookup_cons_self] at hv; cases hv
   ·have hb:(x == y)=false:=by simpa using cI
    rw[hb] at hs;have hl:((y,u)::kvs).lookup x=kvs.lookup x:=by rw[List.lookup_cons,hb]
    rw[hl];obtain⟨i1,i2⟩:=ih kvs (i+1) h3;refine⟨λv hv=>?_,λhv=>?_⟩
    ·obtain⟨j,hj⟩:=i1 v hv;exact⟨j,by simp only[Instr.findNow,hs]; exact hj⟩
    ·simp only[Instr.findNow,hs]; exact i2 hv
section
variable {P:Program} {ops:Array Oper} {rest:List Oper} {o:Oper} {a:Act} {Q:Exit->Act->World->Prop}
theorem LK(w:World)(hg:o.guard=none)(m x v:Operand)(t:TypeId)(kx:o.op=Op.mapUpdate t m x v)(kt et:TypeId)(ht:P.underlying t=some (.map kt et))(hk:P.underlying kt=some .string)
 (r:Nat) (kvs:List (List UInt8×Value)) (hm:a.eval m = .map (some r)) (hr:dW r kvs w) (key:List UInt8) (hx:a.eval x=aH key) (val:Value) (hv:a.eval v=val) (iG:kvs.lookup key=none)
 (hK:∀ w',dW r (kvs ++ [(key,val)]) w'->Turned r w w'->wpList P ops Q rest (a.put o.dst undef) w'):wpList P ops Q (o::rest) a w:=by
 obtain⟨es,c,hr,he⟩:=hr;have hf:=(Dm key es.toList kvs 0 he).2 iG;refine wpList_plain hg λK' hK'=>?_;have hc:(Instr.checkKey false 10000 kt (aH key)).run P w = .ok () w:=MapKept.run_checkKey (k:=aH key) hk (by simp[MapKept.IsKey]) false 9999;have dH:(Instr.mapUpdate t (.map (some r)) (aH key) val).run P w = .ok () { w with heap:=w.heap.setIfInBounds r (.map (es.push { key:=aH key,val:=val,born:=c }) (c+1)) }:=by
  simp[Instr.mapUpdate,run_underlying ht,MapKept.run_getObj_map hr,hc,MapKept.run_findKey hk hf,MapKept.run_setObj_map _ hr,Result.andThen]
 unfold Oper.wp;simp[execOp,kx,hm,hx,hv,dH,Result.andThen];have hl:r<w.heap.size:=(eQ.1 hr).1;refine hK' _ _ (hK _ ⟨_,_,by simp[hl]; exact⟨rfl,rfl⟩,by simp[he]⟩ ⟨rfl,rfl,rfl,by simp,λi hi=>by simp[Ne.symm hi]⟩)
theorem Ge(w:World)(t kt et:TypeId)(ht:P.underlying t=some (.map kt et))(hk:P.underlying kt=some .string)(r:Nat)(kvs:List (List UInt8×Value))(hr:dW r kvs w)(key:List UInt8)(z:Value)(hz:(zeroValue et).run P w = .ok z w) :
 (Instr.lookup t (.map (some r)) (aH key) false).run P w = .ok ((kvs.lookup key).getD z) w:=by
 obtain⟨es,c,hr,he⟩:=hr;have hf:=Dm key es.toList kvs 0 he;have hc:∀ b,(Instr.checkKey b 10000 kt (aH key)).run P w = .ok () w:=λb=>MapKept.run_checkKey (k:=aH key) hk (by simp[MapKept.IsKey]) b 9999
 cases hl:kvs.lookup key with
 | none=>simp[Instr.lookup,run_underlying ht,MapKept.run_getObj_map hr,hc,MapKept.run_findKey hk (hf.2 hl),Result.andThen,hz]
 | some v=>
  obtain⟨j,hj⟩:=hf.1 v hl;simp[Instr.lookup,run_underlying ht,MapKept.run_getObj_map hr,hc,MapKept.run_findKey hk hj,Result.andThen]
end
end
end Go.Proofs.YtbfbobfbgabjiaaGreatDoor
