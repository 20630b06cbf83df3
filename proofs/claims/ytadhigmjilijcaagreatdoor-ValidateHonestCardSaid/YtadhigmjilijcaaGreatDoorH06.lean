/- No condition. -/
import Derived.Test.YtadhigmjilijcaaGreatDoorH02
import Derived.Test.YtadhigmjilijcaaGreatDoorH03
import Derived.Test.YtadhigmjilijcaaGreatDoorH04
import Derived.Test.YtadhigmjilijcaaGreatDoorH05
set_option linter.all false
set_option maxRecDepth 100000
set_option maxHeartbeats 8000000
namespace Go.Proofs.YtadhigmjilijcaaGreatDoor
open Go.Proofs.Tryz
namespace Np
structure Host where
 name:List UInt8
 addr:Int
 owner:Int
deriving DecidableEq
structure Copy where
 host:Int
 frm:Int
 til:Int
 zone:Zone
deriving DecidableEq
structure Placed where
 host:Int
 zone:Zone
deriving DecidableEq
structure Held where
 zone:List UInt8
 signed:Signed
 fresh:List Span
 spans:List Span
deriving DecidableEq
structure Hist where
 hosts:List Host
 copies:List Copy
 anchor:DSet
 hints:List Int
 drift:Int
 stop:Int
structure WorldP where
 hosts:List Host
 zones:List Placed
 anchor:DSet
 hints:List Int
noncomputable def yes(P:Prop):Bool:=@decide P (Classical.propDecidable P)
theorem gY{P:Prop}(h:P):yes P=true:=by unfold yes;exact @uQ _ (Classical.propDecidable P) h
theorem eX{P:Prop}(h:¬ P):yes P=false:=by unfold yes;exact @tQ _ (Classical.propDecidable P) h
theorem kw{P:Prop} : yes P=true↔P:=by unfold yes;exact @decide_eq_true_iff _ (Classical.propDecidable P)
theorem G1{P Q:Prop}(h:P↔Q):yes P=yes Q:=by rw[Bool.eq_iff_iff,kw,kw];exact h
structure adY(h:Host):Prop where
 name:ai h.name=true
 wild:dC h.name=false
 addr:1<=h.addr/\h.addr<=1000000
 owner:0<=h.owner/\h.owner<=31
structure VHosts(l:List Host):Prop where
 few:l.length<=64
 each:∀ h∈l,adY h
 addrs:(l.map (·.addr)).Nodup
structure VRoot(a:DSet)(hints:List Int):Prop where
 set:bi a=true
 type:a.type=6
 name:a.name = [46]
 few:1<=hints.length/\hints.length<=8
 each:∀ n∈hints,1<=n/\n<=1000000
structure CopyOk(h:Hist)(c:Copy):Prop where
 host:0<=c.host/\c.host<h.hosts.length
 times:0<=c.frm/\c.frm<c.til/\c.til<=h.stop
 zone:VZone c.zone
def G4(c d:Copy):Prop:=c.host=d.host/\c.zone.apex=d.zone.apex/\c.frm<d.til/\d.frm<c.til
structure VHist(h:Hist):Prop where
 stop:1<=h.stop/\h.stop<=10000000
 drift:0<=h.drift/\h.drift<=1000
 hosts:VHosts h.hosts
 root:VRoot h.anchor h.hints
 each:∀ c∈h.copies,CopyOk h c
 apart:h.copies.Pairwise λc d=>¬ G4 c d
structure VWorld(w:WorldP):Prop where
 hosts:VHosts w.hosts
 root:VRoot w.anchor w.hints
 each:∀ p∈w.zones,(0<=p.host/\p.host<w.hosts.length)/\VZone p.zone
 apart:w.zones.Pairwise λp q=>¬ (p.host=q.host/\p.zone.apex=q.zone.apex)
def yd(l:List Span):List Span:=(l.mergeSort λa b=>decide (a.frm<=b.frm)).foldl pF []
theorem a3Q{l m:List Span}(h:l.Perm m)(t:Int):inS l t↔inS m t:=
 ⟨λ⟨s,hs,k⟩=>⟨s,h.mem_iff.1 hs,k⟩,λ⟨s,hs,k⟩=>⟨s,h.mem_iff.2 hs,k⟩⟩
theorem aAK{l:List Span}(hf:∀ s∈l,s.frm<s.til)(hs:l.Pairwise λa b=>a.frm<=b.frm):ApartS (l.foldl pF [])/\∀ t,inS (l.foldl pF []) t↔inS l t:=by
 obtain⟨h1,h2⟩:=Vd l [] ApartS.nil hf hs (λp hp=>by cases hp);exact⟨h1,λt=>(h2 t).trans ⟨λh=>h.elim (λh=>absurd h (tY t)) id,.inr⟩⟩
theorem UY(l:List Span):(l.mergeSort λa b=>decide (a.frm<=b.frm)).Perm l:=List.mergeSort_perm _ _
theorem bCZ(l:List Span):(l.mergeSort λa b=>decide (a.frm<=b.frm)).Pairwise λa b=>a.frm<=b.frm:=by
 have:=List.pairwise_mergeSort (le:=λa b:Span=>decide (a.frm<=b.frm)) (λx y z h1 h2=>by simp at *;omega) (λx y=>by simp;omega) l
 exact this.imp λh=>by simpa using h
theorem T4{l:List Span}(hf:∀ s∈l,s.frm<s.til):ApartS (yd l)/\∀ t,inS (yd l) t↔inS l t:=by
 obtain⟨h1,h2⟩:=aAK (λs hs=>hf s ((UY l).mem_iff.1 hs)) (bCZ l);exact⟨h1,λt=>(h2 t).trans (a3Q (UY l) t)⟩
theorem bgZ{l m:List Span}(hf:∀ s∈l,s.frm<s.til)(hm:ApartS m)(ht:∀ t,inS m t↔inS l t):m=yd l:=by
 obtain⟨h1,h2⟩:=T4 hf;exact PP _ _ hm h1 λt=>(ht t).trans (h2 t).symm
theorem bgJ{l m:List Span}(hl:∀ s∈l,s.frm<s.til)(hm:∀ s∈m,s.frm<s.til)(h:∀ t,inS l t↔inS m t):yd l=yd m:=by
 obtain⟨h1,h2⟩:=T4 hl;exact bgZ hm h1 λt=>(h2 t).trans (h t)
def pD(c:Copy):Span:=⟨c.frm,c.til⟩
def Qi(l:List Copy)(zone:List UInt8):List Copy:=l.filter λc=>c.zone.apex == zone
def Uc(c:Copy):List (Span×Signed):=c.zone.sets.map λs=>(pD c,s)
def Am(l:List Copy)(zone:List UInt8):List (Span×Signed):=(Qi l zone).flatMap Uc
def ym(ps:List (Span×Signed))(s:Signed):List Span:=(ps.filter λp=>decide (p.2=s)).map (·.1)
theorem LN{l:List Copy}{zone:List UInt8}{p:Span×Signed} : p∈Am l zone↔∃ c∈l,c.zone.apex=zone/\p.2∈c.zone.sets/\p.1=pD c:=by
 unfold Am Qi Uc;simp only[List.mem_flatMap,List.mem_filter,List.mem_map,beq_iff_eq];constructor
 ·rintro⟨c,⟨h1,h2⟩,s,hs,rfl⟩;exact⟨c,h1,h2,hs,rfl⟩
 ·rintro⟨c,h1,h2,h3,h4⟩;exact⟨c,⟨h1,h2⟩,p.2,h3,by rw[<-h4]⟩
theorem GD{ps:List (Span×Signed)}{s:Signed}{x:Span} : x∈ym ps s↔(x,s)∈ps:=by
 unfold ym;simp only[List.mem_map,List.mem_filter,Qa];constructor
 ·rintro⟨p,⟨h1,rfl⟩,rfl⟩;exact h1
 ·intro h;exact⟨(x,s),⟨h,rfl⟩,rfl⟩
def vO(l:List Copy):Prop:=∀ c∈l,c.frm<c.til
theorem VHist.full{h:Hist}(v:VHist h):vO h.copies:=λc hc=>(v.each c hc).times.2.1
theorem Mn{l:List Copy}(hl:vO l){zone:List UInt8}{s:Signed} : ∀ x∈ym (Am l zone) s,x.frm<x.til:=λx hx=>by
 obtain⟨c,hc,_,_,h4⟩:=LN.1 (GD.1 hx);have h4:x=pD c:=h4;rw[h4];exact hl c hc
theorem Tt{l:List Copy}{zone:List UInt8}{s:Signed}{t:Int} : inS (ym (Am l zone) s) t↔∃ c∈l,c.zone.apex=zone/\s∈c.zone.sets/\c.frm<=t/\t<c.til:=by
 constructor
 ·rintro⟨x,hx,h1,h2⟩;obtain⟨c,hc,h3,h4,h5⟩:=LN.1 (GD.1 hx);have h5:x=pD c:=h5;subst h5;exact⟨c,hc,h3,h4,h1,h2⟩
 ·rintro⟨c,hc,h3,h4,h1,h2⟩;exact⟨pD c,GD.2 (LN.2 ⟨c,hc,h3,h4,rfl⟩),h1,h2⟩
end Np
section
open Go.RowKit
theorem ua{w:World}{B:Nat}{v:Value}{xs:List Np.Sig}(h:SlR en 6 w B v xs){k:Nat}{x:Np.Sig}(hx:xs[k]?=some x):∃ (b o c:Nat) (s:ByteArray),v = .slice (some ⟨b,o,none⟩) xs.length c/\b<B/\s.data.toList=x.zone/\s.size<=140737488355328/\
 w.cell? ⟨b,o+k * 6,none⟩=some (.string s)/\w.cell? ⟨b,o+k * 6+1,none⟩=some (.int .i64 x.key)/\w.cell? ⟨b,o+k * 6+2,none⟩=some (.int .i64 x.alg)/\w.cell? ⟨b,o+k * 6+3,none⟩=some (.int .i64 x.frm)/\w.cell? ⟨b,o+k * 6+4,none⟩=some (.int .i64 x.til)/\w.cell? ⟨b,o+k * 6+5,none⟩=some (.int .u64 x.sum):=by
 obtain⟨A,c,rfl,hc,_,he⟩:=h;obtain⟨b,o,e,rfl,hb,_,hce,s,h1,h2,rfl⟩:=he k x hx;exact⟨b,o,c,s,rfl,hb,h1,h2,by have:=hce 0 _ rfl;simpa using this,hce 1 _ rfl,hce 2 _ rfl,hce 3 _ rfl,hce 4 _ rfl,hce 5 _ rfl⟩
theorem QJ(t:Int)(b:Bool)(w:World) :
 Calls prog 253 #[.int .i64 t,.bool b] w (aCY w (.bool (Np.jZ t b))):=by
 unfold Np.jZ;go_enter func253,ntmps253;go_wp2_with fail
 all_goals
  go_ret;refine⟨aj ?_,rfl⟩;simp_all
theorem Ts{a:List UInt8}{l:List Np.Sig}{k:Nat}{x:Np.Sig}(hx:l[k]?=some x)(h:¬ Np.SigOk a l k x):Np.yes (Np.gB a l)=false:=Np.eX λhf=>h (hf.2 k x hx)
theorem UO{a:List UInt8}{l:List Np.Sig}{k:Nat}{x:Np.Sig}(hx:l[k]?=some x)(h:∀ j g,j<k->l[j]?=some g->Np.SigOk a l j g)(hk:Np.SigOk a l k x):∀ j g,j<k+1->l[j]?=some g->Np.SigOk a l j g:=λj g hj hg=>by
 by_cases e:j=k
 ·subst e;rw[hx] at hg;cases hg;exact hk
 ·exact h j g (by omega) hg
theorem a2Y(a:ByteArray)(v:Value)(l:List Np.Sig)(w:World)(h:SlR en 6 w w.heap.size v l) :
 Calls prog 254 #[v,.string a] w (aCX w.heap.size w (.bool (Np.yes (Np.gB a.data.toList l)))):=by
 obtain⟨r,hr⟩:=aaK (Np.yes (Np.gB a.data.toList l));rw[hr];have HR:=jq hr;have H:=jq h;obtain⟨A,c,rfl,aR,cP⟩:=ba h;clear h hr;by_cases h6:l.length<=6
 ·have H6:=jq h6;go_enter func254,ntmps254;go_wp2_with fail;go_loopw [12] (λi wr=>∃ k:Nat,k<=l.length/\i = .int .i64 k/\Hid (Below w.heap.size w wr)/\Hid (∀ j g,j<k->l[j]?=some g->Np.SigOk a.data.toList l j g)) (λi _=>l.length - (intOf i).toNat)
  case atStart=>exact⟨0,jQ _,rfl,jq (vQ _ _),jq (λj g hj=>by omega)⟩
  case round=>
   obtain⟨k,hk,rfl,HB,HA⟩:=hrel;by_cases ag:k<l.length
   ·have er:=H.out.keep dG HB.out;have aF:=aQ ag;obtain⟨b,o,c',s,hA,cX,hs,aB,e0,e1,e2,e3,e4,e5⟩:=ua er aF
    cases hA
    have xZ:=aQ (show 0<l.length by omega);obtain⟨b',o',c'',s',hA,_,_,_,_,z1,z2,z3,z4,_⟩:=ua er xZ;simp only[Value.slice.injEq,Option.some.injEq,Addr.mk.injEq,and_true,true_and] at hA;obtain⟨⟨rfl,rfl⟩,-⟩:=hA;simp only[Nat.zero_mul,Nat.add_zero] at z3 z4;have HN:Hid (∀ h:Np.SigOk a.data.toList l k l[k],∀ j g,j<k+1->l[j]?=some g->Np.SigOk a.data.toList l j g):=jq (λh=>UO aF HA.out h);have HF:Hid (¬ Np.SigOk a.data.toList l k l[k]->r=false):=jq (λh=>HR.out ▸ Ts aF h);have HZ:=jq xZ;have Ih:=jq aF;have HS:=jq hs;have nA:=HB.out.size;have xn:b<wr.heap.size:=by omega
    have cu:Hid (∀ o n,Below w.heap.size w ((wr.alloc o).drewN n)):=jq (λo n=>below_drewN (HB.out.alloc HB.out.size _) _);have pK:Hid (∀ o,Below w.heap.size w (wr.alloc o)):=jq (λo=>(HB.out.alloc HB.out.size _));have df:=kNN k;have dg:(k:Int)<(l.length:Int):=by omega
    have bG:(0:Int)<(l.length:Int):=by omega
    have IK:Hid (∀ m,k=m+1->∃ y,l[m]?=some y/\wr.cell? ⟨b,o+m * 6+1,none⟩=some (.int .i64 y.key)):=jq (λm hm=>by
     obtain⟨b2,o2,c2,s2,hA,_,_,_,_,y1,_⟩:=ua er (aQ (show m<l.length by omega));simp only[Value.slice.injEq,Option.some.injEq,Addr.mk.injEq,and_true,true_and] at hA;obtain⟨⟨rfl,rfl⟩,-⟩:=hA;exact⟨_,aQ (by omega),y1⟩)
    generalize l[k]=x at *;generalize l[0]=x0 at *;clear er hs aF xZ z1 z2;have xw:((!s.toList == a.toList)=true)\/(!s.toList == a.toList)=false/\(decide (x.key<1)=true\/decide (x.key<1)=false/\(decide (1000000<x.key)=true\/decide (1000000<x.key)=false/\(decide (x.alg<1)=true\/decide (x.alg<1)=false/\(decide (3<x.alg)=true\/decide (3<x.alg)=false/\(decide (x.frm<0)=true\/decide (x.frm<0)=false/\(decide (x.til<x.frm)=true\/decide (x.til<x.frm)=false/\(decide (20000000<x.til)=true\/decide (20000000<x.til)=false))))))):=by
     simp only[Qa,decide_eq_false_iff_not];by_cases q:s.toList=a.toList
     ·simp[q];omega
     ·exact .inl (by simpa using q)
    rcases xw with d1 | ⟨d1,d2 | ⟨d2,d3 | ⟨d3,d4 | ⟨d4,d5 | ⟨d5,d6 | ⟨d6,d7 | ⟨d7,d8 | d8⟩⟩⟩⟩⟩⟩⟩
    rotate_right
    ·by_cases ik:k=0
     ·have ki:decide ((0:Int)<(k:Int))=false:=by simp;omega
      have iP:decide (0<k)=false:=by simp;omega
      have dj:Hid (Np.SigOk a.data.toList l k x):=jq (by
       have e1:s.toList=a.toList:=by simpa using d1
       rw[dQ,dQ] at e1;simp only[decide_eq_false_iff_not] at d2 d3 d4 d5 d6 d7 d8;have gK:x0=x:=by
        have h1:=HZ.out;rw[<-ik,Ih.out] at h1;exact (Option.some.inj h1).symm
       refine⟨by rw[<-HS.out,e1],by omega,by omega,by omega,λq hq=>?_,λp _ h0=>by omega⟩;rw[HZ.out] at hq;cases hq;rw[gK];exact⟨rfl,rfl⟩)
      clear ik;go_wp2_with fail;go_quiet (fail);go_wp2_with fail;go_roundw
      case rel=>exact⟨k+1,by omega,by go_num,jq (cu.out _ _),jq (HN.out dj.out)⟩
      ·simp[intOf]<;>omega
     ·obtain⟨m,rfl⟩:∃ m,k=m+1:=⟨k - 1,by omega⟩;obtain⟨y,hy,y1⟩:=IK.out m rfl;have HY:=jq hy;have ki:decide ((0:Int)<((m+1:Nat):Int))=true:=by simp
      have ah:IntKind.i64.wrap (((m+1:Nat):Int) - 1)=(m:Int):=by rw[IntWalk.i64_in _ (by omega)];omega
      have iO:(0:Int)<=(m:Int):=by omega
      have mP:(m:Int)<(l.length:Int):=by omega
      have aKJ:((x.frm != x0.frm)=true)\/(x.frm != x0.frm)=false/\((x.til != x0.til)=true\/(x.til != x0.til)=false/\(decide (x.key<=y.key)=true\/decide (x.key<=y.key)=false)):=by
       simp only[bne_iff_ne,bne_eq_false_iff_eq,Qa,decide_eq_false_iff_not];omega
      clear hy ik;rcases aKJ with c1 | ⟨c1,c2 | ⟨c2,c3 | c3⟩⟩
      rotate_right
      ·have dj:Hid (Np.SigOk a.data.toList l (m+1) x):=jq (by
        have e1:s.toList=a.toList:=by simpa using d1
        rw[dQ,dQ] at e1;simp only[decide_eq_false_iff_not,bne_eq_false_iff_eq] at d2 d3 d4 d5 d6 d7 d8 c1 c2 c3;refine⟨by rw[<-HS.out,e1],by omega,by omega,by omega,λq hq=>?_,λp hp h0=>?_⟩
        ·rw[HZ.out] at hq;cases hq;exact⟨c1,c2⟩
        ·rw[show m+1 - 1=m by omega,HY.out] at hp;cases hp;omega)
       go_wp2_with fail;go_quiet (fail);go_wp2_with fail;go_roundw
       case rel=>exact⟨m+1+1,by omega,by go_num,jq (cu.out _ _),jq (HN.out dj.out)⟩
       ·simp[intOf]<;>omega
      all_goals
       go_wp2_with fail;go_quiet (fail);go_wp2_with fail;go_ret;refine⟨aj (HF.out ?_).symm,cu.out _ _⟩;intro fe;have k5:=fe.same _ HZ.out;have k6:=fe.up _ HY.out (by omega);simp only[bne_iff_ne,bne_eq_false_iff_eq,Qa,decide_eq_false_iff_not] at *;omega
    all_goals
     go_wp2_with fail;go_ret;refine⟨aj (HF.out ?_).symm,pK.out _⟩;intro fe;obtain⟨k1,k2,k3,k4,_,_⟩:=fe
     first
      | (rw[dQ,dQ,HS.out,k1] at d1;simp at d1;done)
      | (simp only[Qa,decide_eq_false_iff_not] at *;omega)
   ·go_wp2_with fail;go_ret;refine⟨aj ?_,HB.out⟩;rw[<-HR.out];exact (Np.gY ⟨H6.out,λj g hg=>HA.out j g (by have:=(cQ.1 hg).1;omega) hg⟩).symm
 ·have h6':6<l.length:=by omega
  have HF:Hid (r=false):=jq (by rw[<-HR.out];exact Np.eX λhf=>h6 hf.1);clear h6;go_enter func254,ntmps254;go_wp2_with fail;go_ret;exact⟨aj HF.out.symm,vQ _ _⟩
theorem VD(s:ByteArray)(hs:s.size<=140737488355328)(w:World) :
 Calls prog 49 #[.string s,.string ⟨#[42]⟩] w (aCY w (.bool (Np.dC s.data.toList))):=by
 have h1:1<=s.size->((s.extract 0 1).toList == [42])=Np.dC s.data.toList:=LD s;have h2:s.size<1->Np.dC s.data.toList=false:=λh=>by
  have:s.data.toList = []:=rQ (by rw[bO];omega)
  rw[this];rfl
 have H1:=jq h1;have H2:=jq h2;clear h1 h2;go_enter func49,ntmps49;go_wp2
 ·go_ret;exact⟨aj (H1.out (by omega)),rfl⟩
 ·go_ret;exact⟨aj (H2.out (by omega)).symm,rfl⟩
def rj(l:List Np.Signed)(k:Nat):Option Np.DSet:=(l.take k).getLast?.map (·.set)
theorem G2{l:List Np.Signed}{k:Nat}{x:Np.Signed}(h:l[k]?=some x):rj l (k+1)=some x.set:=by
 obtain⟨hl,rfl⟩:=cQ.1 h;unfold rj;rw[fQ hl,List.getLast?_append];rfl
theorem VB{apex:List UInt8}{l:List Np.Signed}{k:Nat}{x:Np.Signed}(h:l[k]?=some x)(p:Option Np.DSet) :
 Np.jg apex p (l.drop k)=((Np.ai x.set.name&&Np.aW x.set.name apex)&&Np.bi x.set&&(match p with | none=>true | some q=>decide (Np.ic q x.set<0))&&Np.jg apex (some x.set) (l.drop (k+1))):=by
 obtain⟨hl,rfl⟩:=cQ.1 h;rw[sQ hl]
 cases p<;>rfl
def agX(w1:World)(apex:List UInt8)(l:List Np.Signed)(i:Value)(wr:World):Prop:=
 ∃ k:Nat,k<=l.length/\i = .int .i64 k/\Below w1.heap.size w1 wr/\Hid (∀ j x,j<k->l[j]?=some x->Np.bi x.set=true)/\Hid (Np.jg apex none l=Np.jg apex (rj l k) (l.drop k))
theorem bQY(a:ByteArray)(ha:a.size<=140737488355328)(v:Value)(l:List Np.Signed)(dJ:l.length<=20000)(w:World)(hR:cr w w.heap.size)(hd:SlR az 5 w w.heap.size v l) :
 Calls prog 195 #[.agg #[.string a,v]] w (aCX w.heap.size w (.bool (Np.gh ⟨a.data.toList,l⟩))):=by
 have HR:=jq hR;have HD:=jq hd;obtain⟨A,c,rfl,aR,cP,-⟩:=hd;clear hR;have HW:=blW w;go_enter func195,ntmps195;go_wp2_with fail;refine (nameValid_any _ ha _).mono ?_;rintro e w1 ⟨rfl,hb⟩;have c0:w1.cell? ⟨w.heap.size,0,none⟩=some (.string a):=by rw[hb.cell (by simp)];go_simp
 have c1:w1.cell? ⟨w.heap.size,1,none⟩=some (.slice A l.length c):=by rw[hb.cell (by simp)];go_simp
 have eH:w.heap.size<w1.heap.size:=by have:=hb.size;simp at this;omega
 have ay:=jq ((HW.out _).trans (hb.mono (by simp)));clear hb
 cases sj:Np.ai a.data.toList with
 | false=>
  have HF:Hid (Np.gh ⟨a.data.toList,l⟩=false):=jq (by unfold Np.gh;rw[sj];rfl);clear sj;go_wp2_with fail;go_ret;exact⟨aj HF.out.symm,ay.out⟩
 | true=>
  have mC:=jq sj;clear sj
  cases bo:Np.dC a.data.toList with
  | true=>
   have HF:Hid (Np.gh ⟨a.data.toList,l⟩=false):=jq (by unfold Np.gh;rw[bo];simp);go_wp2_with (go_at_call 49;refine (VD a ha _).mono ?_;rintro e w' ⟨rfl,rfl⟩);go_ret;exact⟨aj HF.out.symm,ay.out⟩
  | false=>
   have HF:Hid (Np.gh ⟨a.data.toList,l⟩=Np.jg a.data.toList none l):=jq (by unfold Np.gh;rw[bo,mC.out];simp);go_wp2_with (go_at_call 49;refine (VD a ha _).mono ?_;rintro e w' ⟨rfl,rfl⟩);clear bo;go_loopw [30] (λi wr=>agX w1 a.data.toList l i wr) (λi _=>l.length - (intOf i).toNat)
   case atStart=>exact⟨0,jQ _,rfl,vQ _ _,jq (λj x hj=>by omega),jq rfl⟩
   case round=>
    obtain⟨k,hk,rfl,aT,HV,HG⟩:=hrel;by_cases ag:k<l.length
    ·have mI:Below w.heap.size w wr:=ay.out.trans (aT.abQ);have aF:=aQ ag;obtain⟨b,o,c',sn,dv,sv,hA,cX,_,aP,aB,aV,aZ,e0,e1,e2,e3,e4⟩:=dN (HD.out.keep ax mI) aF
     cases hA
     generalize hx:l[k]=x at *;clear hx;obtain⟨Ad,cd,rfl,aY,qE⟩:=ba aV;obtain⟨As,cs,rfl,hcs,hls⟩:=ba aZ;have d0:wr.cell? ⟨w.heap.size,0,none⟩=some (.string a):=by rw[aT.cell (by simpa using eH)];exact c0
     have d1:wr.cell? ⟨w.heap.size,1,none⟩=some (.slice (some ⟨b,o,none⟩) l.length c):=by rw[aT.cell (by simpa using eH)];exact c1
     have gO:w.heap.size<wr.heap.size:=by have:=aT.size;omega
     have iX:=jq aV;have HX:=jq aF;have bU:=jq aP;have bN:=jq aT;have yE:=jq mI;have ro:=jq (HG.out.trans (VB aF (rj l k)));clear aV aZ aF aP aT mI c0 c1;go_wp2_with fail;have dE:Below wr.heap.size wr (wr.alloc (.cells #[.string sn,.int .i64 x.set.type,.int .i64 x.set.life,.slice Ad x.set.data.length cd,.slice As x.sigs.length cs] 44)):=blAl;have p0:=World.cell?_alloc_new wr #[.string sn,.int .i64 x.set.type,.int .i64 x.set.life,.slice Ad x.set.data.length cd,.slice As x.sigs.length cs] 44 0;have p1:=World.cell?_alloc_new wr #[.string sn,.int .i64 x.set.type,.int .i64 x.set.life,.slice Ad x.set.data.length cd,.slice As x.sigs.length cs] 44 1;have tX:wr.heap.size<(wr.alloc (.cells #[.string sn,.int .i64 x.set.type,.int .i64 x.set.life,.slice Ad x.set.data.length cd,.slice As x.sigs.length cs] 44)).heap.size:=by simp
     generalize wr.alloc (.cells #[.string sn,.int .i64 x.set.type,.int .i64 x.set.life,.slice Ad x.set.data.length cd,.slice As x.sigs.length cs] 44)=wa at dE p0 p1 tX |-;have eK:=jq dE;have vU:=aaZ yE dE;replace p0:wa.cell? ⟨wr.heap.size,0,none⟩=some (.string sn):=p0;replace p1:wa.cell? ⟨wr.heap.size,1,none⟩=some (.int .i64 x.set.type):=p1;replace d0:wa.cell? ⟨w.heap.size,0,none⟩=some (.string a):=by rw[dE.cell (by simpa using gO)];exact d0
     replace d1:wa.cell? ⟨w.heap.size,1,none⟩=some (.slice (some ⟨b,o,none⟩) l.length c):=by rw[dE.cell (by simpa using gO)];exact d1
     clear dE e0 e1 e2 e3 e4;refine (sH sn aB _ _ _ x.set.data _ ((HR.out.keep vU.out).more (by omega)) ((iX.out.keep bM (eK.out.abQ)).more bY (by omega))).mono ?_;have Dg:(⟨sn.data.toList,x.set.type,x.set.life,x.set.data⟩:Np.DSet)=x.set:=by rw[bU.out]
     rw[Dg];clear Dg;rintro e w2 ⟨rfl,ae⟩;have bL:wr.heap.size<w2.heap.size:=by have:=ae.size;omega
     have cbX:w.heap.size<w2.heap.size:=by omega
     replace d0:w2.cell? ⟨w.heap.size,0,none⟩=some (.string a):=by rw[ae.cell (by simp;omega)];exact d0
     replace d1:w2.cell? ⟨w.heap.size,1,none⟩=some (.slice (some ⟨b,o,none⟩) l.length c):=by rw[ae.cell (by simp;omega)];exact d1
     replace p0:w2.cell? ⟨wr.heap.size,0,none⟩=some (.string sn):=by rw[ae.cell (by simpa using tX)];exact p0
     replace p1:w2.cell? ⟨wr.heap.size,1,none⟩=some (.int .i64 x.set.type):=by rw[ae.cell (by simpa using tX)];exact p1
     have am:=aaZ vU ae;have Wd:=aaZ eK ae;clear ae
     cases km:Np.bi x.set with
     | false=>
      have oa:=jq km;clear km;go_wp2_with fail;go_ret;refine⟨aj ?_,am.out⟩;rw[HF.out,ro.out,oa.out,Bool.and_false];rfl
     | true=>
      have oa:=jq km;have iC:Np.ai sn.data.toList=true:=by rw[bU.out];exact AB km
      have eN:=jq iC;have Cy:∀ j y,j<k+1->l[j]?=some y->Np.bi y.set=true:=λj y hj hy=>by
       by_cases e:j=k
       ·subst e;rw[HX.out] at hy;cases hy;exact km
       ·exact HV.out j y (by omega) hy
      have vR:=jq Cy;clear km iC Cy;go_wp2_with fail;refine (vJ sn a aB ha _ eN.out mC.out).mono ?_;rintro e w3 ⟨rfl,aq⟩;have mh:wr.heap.size<w3.heap.size:=by have:=aq.size;omega
      have cbY:w.heap.size<w3.heap.size:=by omega
      replace d1:w3.cell? ⟨w.heap.size,1,none⟩=some (.slice (some ⟨b,o,none⟩) l.length c):=by rw[aq.cell (by simp;omega)];exact d1
      replace p0:w3.cell? ⟨wr.heap.size,0,none⟩=some (.string sn):=by rw[aq.cell (by simpa using bL)];exact p0
      replace p1:w3.cell? ⟨wr.heap.size,1,none⟩=some (.int .i64 x.set.type):=by rw[aq.cell (by simpa using bL)];exact p1
      have aw:=aaZ am aq;have M9:=aaZ Wd aq;clear aq d0
      cases fL:Np.aW sn.data.toList a.data.toList with
      | false=>
       have Jb:=jq fL;clear fL;go_wp2_with fail;go_ret;refine⟨aj ?_,aw.out⟩;rw[HF.out,ro.out,<-bU.out,eN.out,Jb.out];rfl
      | true=>
       have gl:=jq (show Np.jg a.data.toList none l=((match rj l k with | none=>true | some q=>decide (Np.ic q x.set<0))&&Np.jg a.data.toList (rj l (k+1)) (l.drop (k+1))) by
        rw[ro.out,<-bU.out,eN.out,fL,oa.out,G2 HX.out];rfl)
       clear fL;by_cases df:k=0
       ·subst df;go_wp2_with fail;go_roundw
        case rel=>exact⟨1,by omega,by go_num,bN.out.trans (M9.out.mono bN.out.size),vR,jq (by rw[gl.out];rfl)⟩
        ·simp[intOf]<;>omega
       ·obtain⟨i,rfl⟩:∃ i,k=i+1:=⟨k - 1,by omega⟩;have tC:=aQ (show i<l.length by omega);obtain⟨b',o',c'',sq,dq,sg,qi,FH,_,jm,SY,CH,_,f0,f1,f2,f3,_⟩:=dN ((HD.out.keep ax aw.out)) tC
        cases qi
        have Tb:=AB (HV.out i l[i] (by omega) tC);generalize hy:l[i]=y at *;clear hy;obtain⟨Aq,cq,rfl,xA,hlq⟩:=ba CH;have hnk:((((i+1:Nat):Int)) == 0)=false:=by simp;omega
        have HVY:Hid (Np.ai sq.data.toList=true):=jq (by rw[jm];exact Tb);have um:Hid (Np.fF (sq.data.toList,y.set.type) (sn.data.toList,x.set.type)=Np.ic y.set x.set):=jq (by rw[jm,bU.out,Np.JC];rfl);have BE:=jq (G2 tC);clear CH jm tC Tb;have FL:b<w3.heap.size:=by omega
        have ah:IntKind.i64.wrap (((i+1:Nat):Int) - 1)=(i:Int):=by rw[IntWalk.i64_in _ (by omega)];omega
        have iO:(0:Int)<=(i:Int):=by omega
        have mP:(i:Int)<(l.length:Int):=by omega
        have vP:Hid (∀ o,Below w3.heap.size w3 (w3.alloc o)):=jq (λo=>blAl);go_wp2_with fail;refine (VC sq sn SY aB _ _ HVY.out eN.out _).mono ?_;rw[um.out];rintro e w4 ⟨rfl,aE⟩;have aX:=jq ((vP.out _).trans (aE.mono (by simp)));clear aE;by_cases kU:Np.ic y.set x.set<0
        ·have pM:=jq (uQ kU);have Kq:¬ (0<=Np.ic y.set x.set):=by omega
         clear kU;go_wp2_with fail;go_roundw
         case rel=>
          refine⟨i+1+1,by omega,by go_num,bN.out.trans ((M9.out.trans (aX.out.abQ)).mono bN.out.size),vR,jq ?_⟩;rw[gl.out,BE.out];simp only[pM.out,Bool.true_and]
         case measure=>simp[intOf]<;>omega
        ·have pM:=jq (tQ kU);have Kq:0<=Np.ic y.set x.set:=by omega
         clear kU;go_wp2_with fail;go_ret;refine⟨aj ?_,aw.out.trans (aX.out.abQ)⟩;rw[HF.out,gl.out,BE.out];simp only[pM.out,Bool.false_and]
    ·go_wp2_with fail;go_ret;refine⟨aj ?_,ay.out.trans (aT.abQ)⟩;rw[HF.out,HG.out,List.drop_eq_nil_of_le (by omega)];rfl
theorem ayZ(s1 s2:ByteArray)(h1:s1.size<=140737488355328)(h2:s2.size<=140737488355328)(t1 l1 t2:Int)(A1 A2:Option Addr)(m1 c1 m2 c2:Nat)(n1:Np.ai s1.data.toList=true)(n2:Np.ai s2.data.toList=true)(w:World) :
 Calls prog 204 #[.agg #[.string s1,.int .i64 t1,.int .i64 l1,.slice A1 m1 c1,.slice A2 m2 c2],.agg #[.string s2,.int .i64 t2]] w
  λe w'=>e = .returned (.int .i64 (Np.fF (s1.data.toList,t1) (s2.data.toList,t2)))/\Below w.heap.size w w':=by
 have HW:Hid (∀ o o',Below w.heap.size w ((w.alloc o).alloc o')):=jq (λo o'=>((vQ _ w).alloc (bQ _) _).alloc (by simp) _);have N1:=jq n1;have N2:=jq n2;clear n1 n2;go_enter func204,ntmps204;go_wp2_with fail;refine (VC s1 s2 h1 h2 _ _ N1.out N2.out _).mono ?_;rintro e w1 ⟨rfl,hb⟩;have HB:=jq ((HW.out _ _).trans (hb.mono (by simp;omega)));clear hb;go_wp2_with fail;go_ret;exact⟨rfl,HB.out⟩
def Np.DC(l:List Np.Signed)(key:List UInt8×Int):Nat:=l.countP λx=>decide (Np.fF (Np.bV x.set) key<0)
def Np.te(l:List Np.Signed):Prop:=l.Pairwise λa b=>Np.fF (Np.bV a.set) (Np.bV b.set)<0
theorem bjY{l:List Np.Signed}{key:List UInt8×Int}{i:Nat}(hi:i<=l.length)(h1:∀ j x,j<i->l[j]?=some x->Np.fF (Np.bV x.set) key<0)(h2:∀ j x,i<=j->l[j]?=some x->¬ Np.fF (Np.bV x.set) key<0):Np.DC l key=i:=by
 unfold Np.DC;have e:=List.take_append_drop i l;rw[<-e,List.countP_append,List.countP_eq_length.2,List.countP_eq_zero.2]
 ·rw[List.length_take];omega
 ·intro x hx;obtain⟨j,hj,rfl⟩:=nQ.1 hx;rw[List.getElem_drop];simpa using h2 (i+j) _ (by omega) (aQ _)
 ·intro x hx;obtain⟨j,hj,rfl⟩:=nQ.1 hx;rw[List.getElem_take];rw[List.length_take] at hj;simpa using h1 j _ (by omega) (aQ _)
theorem aBQ{l:List Np.Signed}(hs:Np.te l){key:List UInt8×Int}{i:Nat}(h1:∀ j x,j<i->l[j]?=some x->Np.fF (Np.bV x.set) key<0)(h2:∀ j x,i<=j->l[j]?=some x->¬ Np.fF (Np.bV x.set) key<0):(∃ x∈l,Np.bV x.set=key)↔∃ x,l[i]?=some x/\Np.fF (Np.bV x.set) key=0:=by
 constructor
 ·rintro⟨x,hx,rfl⟩;obtain⟨j,hj,rfl⟩:=nQ.1 hx;have aXX:=Np.yn.self (Np.bV l[j].set);rcases Nat.lt_trichotomy j i with h | h | h
  ·have:=h1 j _ h (aQ hj)
   omega
  ·subst h;exact⟨_,aQ hj,aXX⟩
  ·exact absurd (List.pairwise_iff_getElem.1 hs i j (by omega) hj h) (h2 i _ (bQ _) (aQ (by omega)))
 ·rintro⟨x,hx,h⟩;exact⟨x,gQ hx,Np.yn.zero _ _ h⟩
theorem GW{l:List Np.Signed}(hs:Np.te l){i j:Nat}{x y:Np.Signed}(hx:l[i]?=some x)(hy:l[j]?=some y)(h:i<j):Np.fF (Np.bV x.set) (Np.bV y.set)<0:=by
 obtain⟨hi,rfl⟩:=cQ.1 hx;obtain⟨hj,rfl⟩:=cQ.1 hy;exact List.pairwise_iff_getElem.1 hs i j hi hj h
theorem Md{z:Np.Zone}(h:Np.InOrder z):Np.te z.sets:=by
 have:=h.order
 rw[List.pairwise_map] at this;exact this.imp λh=>by rw[<-Np.JC];exact h
def Np.ig(l:List Np.Signed)(n:List UInt8)(t:Int):Prop:=∃ x∈l,x.set.name=n/\x.set.type=t
theorem Kh{l:List Np.Signed}{n:List UInt8}{t:Int} : Np.ig l n t↔∃ x∈l,Np.bV x.set=(n,t):=by
 unfold Np.ig Np.bV;simp only[Prod.mk.injEq]
theorem alZ(v:Value)(l:List Np.Signed)(dJ:l.length<=20000)(hv:∀ x∈l,Np.ai x.set.name=true)(hs:Np.te l)(q:ByteArray)(hq:q.size<=140737488355328)(qt:Int)(nq:Np.ai q.data.toList=true)(w:World)(hd:SlR az 5 w w.heap.size v l) :
 Calls prog 203 #[v,.agg #[.string q,.int .i64 qt],.func (.func 204) #[] #[]] w
  λe w'=>e = .returned (.tuple #[.int .i64 (Np.DC l (q.data.toList,qt)),.bool (Np.yes (Np.ig l q.data.toList qt))])/\Below w.heap.size w w':=by
 obtain⟨pl,il⟩:=aaK (Np.DC l (q.data.toList,qt));obtain⟨r,hr⟩:=aaK (Np.yes (Np.ig l q.data.toList qt));rw[il,hr];have nY:=jq il;have HR:=jq hr;have HV:=jq hv;have HS:=jq hs;have HD:=jq hd;have NQ:=jq nq;have eg:∀ args w,(callFunc 204 args).run prog w = .ok (.enter 204 args) w:=enters_of func204 (by kernel_rfl) rfl;obtain⟨A,c,rfl,aR,cP⟩:=ba hd;clear il hr hv hs hd nq;have HW:=blW w;go_enter func203,ntmps203;go_wp2_with fail;have c0:=World.cell?_alloc_new w #[.string q,.int .i64 qt] 27 0;have c1:=World.cell?_alloc_new w #[.string q,.int .i64 qt] 27 1;have eH:w.heap.size<(w.alloc (.cells #[.string q,.int .i64 qt] 27)).heap.size:=by simp
 have ay:=jq (HW.out (.cells #[.string q,.int .i64 qt] 27));generalize w.alloc (.cells #[.string q,.int .i64 qt] 27)=w1 at c0 c1 eH ay |-;replace c0:w1.cell? ⟨w.heap.size,0,none⟩=some (.string q):=c0;replace c1:w1.cell? ⟨w.heap.size,1,none⟩=some (.int .i64 qt):=c1;go_loopg [9,10] l.length (λg s7 s8 wr=>∃ lo hi:Nat,s7 = .int .i64 lo/\s8 = .int .i64 hi/\lo<=hi/\hi<=l.length/\hi - lo<=g/\Hid (Below w1.heap.size w1 wr)/\Hid ((∀ j x,j<lo->l[j]?=some x->Np.fF (Np.bV x.set) (q.data.toList,qt)<0)/\(∀ j x,hi<=j->l[j]?=some x->¬ Np.fF (Np.bV x.set) (q.data.toList,qt)<0)))
 case atStart=>exact⟨0,l.length,rfl,rfl,jQ _,bQ _,by omega,jq (vQ _ _),jq ⟨λj x hj=>by omega,λj x hj hx=>by have:=(cQ.1 hx).1;omega⟩⟩
 case round=>
  obtain⟨lo,hi,rfl,rfl,hlh,hin,hg,HB,HI⟩:=hrel;have aZX:=HB.out.size;have d0:wr.cell? ⟨w.heap.size,0,none⟩=some (.string q):=by rw[HB.out.cell (by simpa using eH)];exact c0
  have d1:wr.cell? ⟨w.heap.size,1,none⟩=some (.int .i64 qt):=by rw[HB.out.cell (by simpa using eH)];exact c1
  have gO:w.heap.size<wr.heap.size:=by omega
  have aD:=aaZ ay HB.out;have qC:∀ (g:ci wr) (p:Addr),p.block<wr.heap.size->g.w.cell? p=wr.cell? p:=λg p h=>g.cell p h;have er:=HD.out.keep ax aD.out;have nl:Hid (∀ (k:Nat) (x:Np.Signed),l[k]?=some x->∃ (b o c':Nat) (s:ByteArray) (Ad:Option Addr) (md cd:Nat) (As:Option Addr) (ms cs:Nat),A=some ⟨b,o,none⟩/\b<wr.heap.size/\wr.cell? ⟨b,o+k * 5,none⟩=some (.string s)/\wr.cell? ⟨b,o+k * 5+1,none⟩=some (.int .i64 x.set.type)/\wr.cell? ⟨b,o+k * 5+2,none⟩=some (.int .i64 x.set.life)/\wr.cell? ⟨b,o+k * 5+3,none⟩=some (.slice Ad md cd)/\wr.cell? ⟨b,o+k * 5+4,none⟩=some (.slice As ms cs)/\
   ∀ g:ci wr,Calls prog 204 #[.agg #[.string s,.int .i64 x.set.type,.int .i64 x.set.life,.slice Ad md cd,.slice As ms cs],.agg #[.string q,.int .i64 qt]] g.w λe w'=>e = .returned (.int .i64 (Np.fF (Np.bV x.set) (q.data.toList,qt)))/\Below g.w.heap.size g.w w'):=jq (λk x hx=>by
   obtain⟨b,o,c',s,dv,sv,hA,cX,_,aP,aB,aV,aZ,e0,e1,e2,e3,e4⟩:=dN er hx
   cases hA
   obtain⟨Ad,cd,rfl,_,_⟩:=ba aV;obtain⟨As,cs,rfl,_,_⟩:=ba aZ;refine⟨b,o,c,s,Ad,_,cd,As,_,cs,rfl,by omega,e0,e1,e2,e3,e4,λg=>?_⟩
   have:=ayZ s q aB hq x.set.type x.set.life qt Ad As x.set.data.length cd x.sigs.length cs (by rw[aP];exact HV.out x (gQ hx)) NQ.out g.w
   rw[aP] at this;exact this)
  clear er c0 c1;by_cases ag:lo<hi
  ·obtain⟨k,hk⟩:=aaK ((lo+hi) / 2);have fZ:k<l.length:=by omega
   have aF:=aQ fZ;obtain⟨b,o,c',s,Ad,md,cd,As,ms,cs,rfl,aT,e0,e1,e2,e3,e4,bw⟩:=nl.out k _ aF;generalize hx:l[k]=x at *;have HX:=jq aF;have mw:=jq bw;have hkI:((lo:Int)+(hi:Int)) / 2=(k:Int):=by omega
   have HK:=jq hk;have df:(0:Int)<=(k:Int):=by omega
   have dg:(k:Int)<(l.length:Int):=by omega
   clear aF bw hx hk;by_cases hc:Np.fF (Np.bV x.set) (q.data.toList,qt)<0
   ·have HN:Hid (∀ j y,j<k+1->l[j]?=some y->Np.fF (Np.bV y.set) (q.data.toList,qt)<0):=jq (λj y hj hy=>by
     by_cases e:j=k
     ·subst e;rw[HX.out] at hy;cases hy;exact hc
     ·exact Np.yn.trans _ _ _ (GW HS.out hy HX.out (by omega)) hc)
    have cH:decide (Np.fF (Np.bV x.set) (q.data.toList,qt)<0)=true:=by simpa using hc
    clear hc;go_wp2_with fail;refine adK ?_
    repeat (go_big_quiet_step ((go_at_call 204;exact Calls.grow_of (mw.out _))))
    refine wpQuiet_nil ?_;rintro _ ⟨g,rfl⟩;go_wp2_with fail;go_roundg (hi - (k+1))
    case measure=>have:=HK.out;omega
    case rel=>exact⟨k+1,hi,by go_num,rfl,by have:=HK.out;omega,hin,bQ _,aaZ HB g.below,jq ⟨HN.out,HI.out.2⟩⟩
   ·have HN:Hid (∀ j y,k<=j->l[j]?=some y->¬ Np.fF (Np.bV y.set) (q.data.toList,qt)<0):=jq (λj y hj hy ag=>by
     by_cases e:j=k
     ·subst e;rw[HX.out] at hy;cases hy;exact hc ag
     ·exact hc (Np.yn.trans _ _ _ (GW HS.out HX.out hy (by omega)) ag))
    have cH:decide (Np.fF (Np.bV x.set) (q.data.toList,qt)<0)=false:=by simpa using hc
    clear hc;go_wp2_with fail;refine adK ?_
    repeat (go_big_quiet_step ((go_at_call 204;exact Calls.grow_of (mw.out _))))
    refine wpQuiet_nil ?_;rintro _ ⟨g,rfl⟩;go_wp2_with fail;go_roundg (k - lo)
    case measure=>have:=HK.out;omega
    case rel=>exact⟨lo,k,rfl,by go_num,by have:=HK.out;omega,by omega,bQ _,aaZ HB g.below,jq ⟨HI.out.1,HN.out⟩⟩
  ·obtain rfl:hi=lo:=by omega
   have HE:Hid (pl=hi):=jq (by rw[<-nY.out];exact bjY hin HI.out.1 HI.out.2);have HF:Hid (r=Np.yes (∃ x,l[hi]?=some x/\Np.fF (Np.bV x.set) (q.data.toList,qt)=0)):=jq (by rw[<-HR.out];exact Np.G1 (Kh.trans (aBQ HS.out HI.out.1 HI.out.2)));by_cases hn:hi<l.length
   ·have aF:=aQ hn;obtain⟨b,o,c',s,Ad,md,cd,As,ms,cs,rfl,aT,e0,e1,e2,e3,e4,bw⟩:=nl.out hi _ aF;generalize hx:l[hi]=x at *;have HX:=jq aF;have mw:=jq bw;have df:(0:Int)<=(hi:Int):=by omega
    have dg:(hi:Int)<(l.length:Int):=by omega
    clear aF bw hx;by_cases hc:Np.fF (Np.bV x.set) (q.data.toList,qt)=0
    ·have HT:Hid (r=true):=jq (by rw[HF.out];exact Np.gY ⟨x,HX.out,hc⟩);have cH:(Np.fF (Np.bV x.set) (q.data.toList,qt) == 0)=true:=by simpa using hc
     clear hc;go_wp2_with fail;refine adK ?_
     repeat (go_big_quiet_step ((go_at_call 204;exact Calls.grow_of (mw.out _))))
     refine wpQuiet_nil ?_;rintro _ ⟨g,rfl⟩;go_wp2_with fail;go_ret2;exact⟨by rw[HE.out,HT.out];rfl,aD.out.trans (g.below.abQ)⟩
    ·have HT:Hid (r=false):=jq (by rw[HF.out];exact Np.eX λ⟨y,hy,h0⟩=>by rw[HX.out] at hy;cases hy;exact hc h0);have cH:(Np.fF (Np.bV x.set) (q.data.toList,qt) == 0)=false:=by simpa using hc
     clear hc;go_wp2_with fail;refine adK ?_
     repeat (go_big_quiet_step ((go_at_call 204;exact Calls.grow_of (mw.out _))))
     refine wpQuiet_nil ?_;rintro _ ⟨g,rfl⟩;go_wp2_with fail;go_ret2;exact⟨by rw[HE.out,HT.out];rfl,aD.out.trans (g.below.abQ)⟩
   ·have HT:Hid (r=false):=jq (by rw[HF.out];exact Np.eX λ⟨y,hy,h0⟩=>by have:=(cQ.1 hy).1;omega);have mb:decide ((hi:Int)<(l.length:Int))=false:=by simp;omega
    have tI:decide (hi<l.length)=false:=by simp;omega
    go_wp2_with fail;refine adK ?_
    repeat (go_big_quiet_step (fail))
    refine wpQuiet_nil ?_;rintro _ ⟨g,rfl⟩;go_wp2_with fail;go_ret2;exact⟨by rw[HE.out,HT.out];rfl,aD.out.trans (g.below.abQ)⟩
theorem JN(a:ByteArray)(v:Value)(l:List Np.Signed)(dJ:l.length<=20000)(hv:∀ x∈l,Np.ai x.set.name=true)(hs:Np.te l)(q:ByteArray)(hq:q.size<=140737488355328)(qt:Int)(nq:Np.ai q.data.toList=true)(w:World)(hd:SlR az 5 w w.heap.size v l) :
 Calls prog 140 #[.agg #[.string a,v],.agg #[.string q,.int .i64 qt]] w
  λe w'=>e = .returned (.tuple #[.int .i64 (Np.DC l (q.data.toList,qt)),.bool (Np.yes (Np.ig l q.data.toList qt))])/\Below w.heap.size w w':=by
 have HV:=jq hv;have HS:=jq hs;have HD:=jq hd;have NQ:=jq nq;obtain⟨A,c,rfl,aR,cP⟩:=ba hd;have HW:Hid (∀ o o',Below w.heap.size w ((w.alloc o).alloc o')):=jq (λo o'=>((vQ _ w).alloc (bQ _) _).alloc (by simp) _);clear hv hs hd nq;go_enter func140,ntmps140;go_wp2_with fail;refine (alZ _ l dJ HV.out HS.out q hq qt NQ.out _ (HD.out.later ax aK (HW.out _ _))).mono ?_;rintro e w1 ⟨rfl,hb⟩;have HB:=jq ((HW.out _ _).trans (hb.mono (by simp;omega)));clear hb;go_wp2_with fail;go_ret2;exact⟨rfl,HB.out⟩
def RTx(_:World)(_:Nat)(e:List Value)(x:List UInt8):Prop:=∃ s:ByteArray,s.data.toList=x/\s.size<=140737488355328/\e = [.string s]
theorem jp:dR RTx:=λ_ _ _ _ _ h _=>h
theorem Au:ef RTx:=λ_ _ _ _ _ h _=>h
def gC(a:List UInt8)(l:List Np.Signed):List (List UInt8×Value):=(l.filter λx=>decide (x.set.type=2)&&!(x.set.name == a)).map λx=>(x.set.name,.bool true)
theorem aqQ(a:List UInt8)(l:List Np.Signed)(x:Np.Signed):gC a (l ++ [x])=if x.set.type=2/\x.set.name≠a then gC a l ++ [(x.set.name,.bool true)] else gC a l:=by
 unfold gC;rw[List.filter_append];by_cases h1:x.set.type=2<;>by_cases h2:x.set.name=a<;>simp[h1,h2]
theorem apY(a:List UInt8)(l:List Np.Signed)(x:Np.Signed):gC a (x::l)=if x.set.type=2/\x.set.name≠a then (x.set.name,.bool true)::gC a l else gC a l:=by
 unfold gC;by_cases h1:x.set.type=2<;>by_cases h2:x.set.name=a<;>simp[h1,h2]
theorem Fd(a:List UInt8)(n:List UInt8):∀ l:List Np.Signed,((gC a l).lookup n).getD (.bool false) = .bool (Np.dz ⟨a,l⟩ n)/\((∀ x∈l,x.set.type=2->x.set.name≠n)->(gC a l).lookup n=none)
 | []=>⟨rfl,λ_=>rfl⟩
 | x::l=>by
   obtain⟨i1,i2⟩:=Fd a n l;have e:Np.dz ⟨a,x::l⟩ n=((decide (x.set.type=2)&&!(x.set.name == a)&&x.set.name == n)||Np.dz ⟨a,l⟩ n):=rfl;rw[apY];split
   ·rename_i h;by_cases hn:x.set.name=n
    ·rw[hn,List.lookup_cons_self];refine⟨?_,λhh=>absurd hn (hh x (by simp) h.1)⟩;rw[e];have h2:=h.2;rw[hn] at h2 |-;simp[h.1,h2]
    ·have hb:(n == x.set.name)=false:=by simpa using λe=>hn e.symm
     rw[List.lookup_cons,hb];refine⟨?_,λhh=>i2 λy hy=>hh y (mQ _ hy)⟩;have ae:(x.set.name == n)=false:=by simpa using hn
     rw[e,ae,Bool.and_false,Bool.false_or];exact i1
   ·rename_i h;refine⟨?_,λhh=>i2 λy hy=>hh y (mQ _ hy)⟩;have hf:(decide (x.set.type=2)&&!(x.set.name == a))=false:=by
     rw[Bool.and_eq_false_iff];by_cases h1:x.set.type=2
     ·right
      have:x.set.name=a:=Decidable.not_not.1 λh2=>h ⟨h1,h2⟩
      simp[this]
     ·left;simpa using h1
    rw[e,hf,Bool.false_and,Bool.false_or];exact i1
theorem LK(n j:Nat)(hj:j<n):(madeCells #[Value.string ⟨#[]⟩] n)[j]?=some (.string ⟨#[]⟩):=by
 unfold madeCells;simp[hj,Nat.mod_one]
theorem Tryz.infoStrZ:(prog.info? 9).map (λi=>(i.zero,i.size,i.bytes))=some (some (.string ⟨#[]⟩),1,16):=by kernel_rfl
theorem LL(n:Nat)(hn:n<=20000)(w:World):(Instr.makeSlice 102 (.int .i64 n) (.int .i64 n)).run prog w = .ok (.slice (some ⟨w.heap.size,0,none⟩) n n) (w.alloc (.cells (madeCells #[Value.string ⟨#[]⟩] n) 9)):=by
 obtain⟨i,hi,hp⟩:=Option.map_eq_some_iff.1 Tryz.infoStrZ;simp only[Prod.mk.injEq] at hp;obtain⟨hz,hs,hb⟩:=hp
 have:=run_make (P:=prog) w 102 9 i (.string ⟨#[]⟩) underlying102 hi hz .i64 .i64 n n (by omega) (Int.le_refl _) (by rw[hb];omega) (by omega)
 rw[hs] at this;simpa [Value.cells] using this
def fP(w:World)(B:Nat)(xs:List (List UInt8)):Prop:=∀ j x,xs[j]?=some x->∃ s:ByteArray,s.data.toList=x/\s.size<=140737488355328/\w.cell? ⟨B,j,none⟩=some (.string s)/\w.frozen? ⟨B,j,none⟩=false
theorem fP.keep{w w':World}{B n:Nat}{xs:List (List UInt8)}(h:fP w B xs)(hb:Below n w w')(hB:B<n):fP w' B xs:=λj x hx=>by
 obtain⟨s,h1,h2,h3,h4⟩:=h j x hx;exact⟨s,h1,h2,(hb.cell (p:=⟨B,j,none⟩) hB).trans h3,(hb.frozen (p:=⟨B,j,none⟩) hB).trans h4⟩
theorem fP.store{w:World}{B:Nat}{xs:List (List UInt8)}(h:fP w B xs){k:Nat}(hk:k<xs.length)(s:ByteArray)(hs:s.size<=140737488355328):fP (w.setCell ⟨B,k,none⟩ (.string s)) B (xs.set k s.data.toList):=λj x hx=>by
 rw[List.getElem?_set] at hx;by_cases uZ:k=j
 ·subst uZ;rw[QbQ rfl,QbQ hk] at hx
  cases hx
  obtain⟨s0,_,_,h3,h4⟩:=h k _ (aQ hk);exact⟨s,rfl,hs,by simp[World.cell?_setCell_same,h3],(World.frozen?_setCell _ _ _ _).trans h4⟩
 ·rw[Qc uZ] at hx;obtain⟨s0,h1,h2,h3,h4⟩:=h j x hx;exact⟨s0,h1,h2,by rw[xQ _ _ _ _ (by simp<;>omega)];exact h3,(World.frozen?_setCell _ _ _ _).trans h4⟩
theorem fP.other{w:World}{B:Nat}{xs:List (List UInt8)}(h:fP w B xs){p:Addr}(hp:p.block≠B)(u:Value):fP (w.setCell p u) B xs:=λj x hx=>by
 obtain⟨s,h1,h2,h3,h4⟩:=h j x hx;exact⟨s,h1,h2,(xQ _ _ _ _ (λe=>hp (by rw[e]))).trans h3,(World.frozen?_setCell _ _ _ _).trans h4⟩
theorem fP.slr{w:World}{B:Nat}{xs:List (List UInt8)}(h:fP w B xs)(hB:B<w.heap.size)(hl:xs.length<=140737488355328):SlR RTx 1 w w.heap.size (.slice (some ⟨B,0,none⟩) xs.length xs.length) xs:=
 ⟨_,_,rfl,bQ _,hl,λj x hx=>by
  obtain⟨s,h1,h2,h3,_⟩:=h j x hx;refine⟨B,0,[.string s],rfl,hB,rfl,λi v hv=>?_,s,h1,h2,rfl⟩
  match i,hv with
  | 0,hv=>cases hv;simpa using h3⟩
theorem Uy{bs:List (List UInt8)}{n k:Nat}{b:List UInt8}(hn:bs.length=n)(hb:bs[k]?=some b):(bs.take k++List.replicate (n - k) []).set k b=bs.take (k+1)++List.replicate (n - (k+1)) []:=by
 obtain⟨hk,rfl⟩:=cQ.1 hb;have e:n - k=(n - (k+1))+1:=by omega
 rw[e,List.replicate_succ,List.set_append_right _ _ (by rw[List.length_take];omega),List.length_take,show k - min k bs.length=0 by omega,List.set_cons_zero,fQ hk,List.append_assoc];rfl
structure LayK(w:World)(M Bl Bs:Nat)(a:ByteArray)(v sl:Value)(kv:List (List UInt8×Value))(wr:World)(bs:List (List UInt8)):Prop where
 below:Below w.heap.size w wr
 b0:wr.cell? ⟨w.heap.size,0,none⟩=some (.string a)
 b1:wr.cell? ⟨w.heap.size,1,none⟩=some v
 r0:wr.cell? ⟨w.heap.size+1,0,none⟩=some (.string ⟨#[]⟩)
 r1:wr.cell? ⟨w.heap.size+1,1,none⟩=some (.slice none 0 0)
 r2:wr.cell? ⟨w.heap.size+1,2,none⟩=some (.slice none 0 0)
 l0:wr.cell? ⟨Bl,0,none⟩=some (.string a)
 l1:wr.cell? ⟨Bl,1,none⟩=some v
 l2:wr.cell? ⟨Bl,2,none⟩=some sl
 map:jw M kv wr
 row:fP wr Bs bs
 blt:Bl<wr.heap.size
 slt:Bs<wr.heap.size
 rf:∀ j,wr.frozen? ⟨w.heap.size+1,j,none⟩=false
structure LayB(n M Bl Bs:Nat):Prop where
 map:n+2=M
 lay:M<Bl
 row:M<Bs
 ne:Bl≠Bs
theorem LayK.keep{w:World}{M Bl Bs:Nat}{a:ByteArray}{v sl:Value}{kv:List (List UInt8×Value)}{wr wx:World}{bs:List (List UInt8)}(h:LayK w M Bl Bs a v sl kv wr bs)(hB:LayB w.heap.size M Bl Bs)(hb:Below wr.heap.size wr wx):LayK w M Bl Bs a v sl kv wx bs:=by
 have h1:=hB.map;have h2:=hB.lay;have h3:=h.blt;have h4:=h.slt;have h5:=h.map.lt;have aB:=hb.size;exact⟨h.below.trans (hb.mono h.below.size),(hb.cell (by simp<;>omega)).trans h.b0,(hb.cell (by simp<;>omega)).trans h.b1,(hb.cell (by simp<;>omega)).trans h.r0,(hb.cell (by simp<;>omega)).trans h.r1,(hb.cell (by simp<;>omega)).trans h.r2,
  (hb.cell (by simp<;>omega)).trans h.l0,(hb.cell (by simp<;>omega)).trans h.l1,(hb.cell (by simp<;>omega)).trans h.l2,h.map.keep hb h5,h.row.keep hb h4,by omega,by omega,λj=>(hb.frozen (by simp<;>omega)).trans (h.rf j)⟩
theorem jw.setCell{r:Nat}{kvs:List (List UInt8×Value)}{w:World}(h:jw r kvs w){p:Addr}(hp:p.block≠r)(u:Value):jw r kvs (w.setCell p u):=by
 obtain⟨es,c,h1,h2⟩:=h;exact⟨es,c,(wQ _ _ _ _ (λe=>hp e.symm)).trans h1,h2⟩
theorem LayK.store{w:World}{M Bl Bs:Nat}{a:ByteArray}{v sl:Value}{kv:List (List UInt8×Value)}{wr:World}{bs:List (List UInt8)}(h:LayK w M Bl Bs a v sl kv wr bs)(hB:LayB w.heap.size M Bl Bs){k:Nat}(hk:k<bs.length)(s:ByteArray)(hs:s.size<=140737488355328):LayK w M Bl Bs a v sl kv (wr.setCell ⟨Bs,k,none⟩ (.string s)) (bs.set k s.data.toList):=by
 have h1:=hB.map;have h2:=hB.lay;have h3:=hB.row;have h4:=hB.ne;exact⟨h.below.setCell (by simp<;>omega) _,(xQ _ _ _ _ (by simp<;>omega)).trans h.b0,(xQ _ _ _ _ (by simp<;>omega)).trans h.b1,(xQ _ _ _ _ (by simp<;>omega)).trans h.r0,(xQ _ _ _ _ (by simp<;>omega)).trans h.r1,(xQ _ _ _ _ (by simp<;>omega)).trans h.r2,
  (xQ _ _ _ _ (by simp<;>omega)).trans h.l0,(xQ _ _ _ _ (by simp<;>omega)).trans h.l1,(xQ _ _ _ _ (by simp<;>omega)).trans h.l2,h.map.setCell (by simp<;>omega) _,h.row.store hk s hs,by simpa using h.blt,by simpa using h.slt,λj=>(World.frozen?_setCell _ _ _ _).trans (h.rf j)⟩
def PI(w:World)(M Bl Bs:Nat)(a:ByteArray)(v sl:Value)(kv:List (List UInt8×Value))(B:List (List UInt8))(C:List UInt8->Bool)(l:List Np.Signed)(vc i:Value)(wr:World):Prop:=
 ∃ (k:Nat) (sc:ByteArray),k<=l.length/\i = .int .i64 k/\vc = .string sc/\sc.size<=140737488355328/\Hid (LayK w M Bl Bs a v sl kv wr (B.take k++List.replicate (l.length - k) []))/\Hid (sc.data.toList = []\/Np.ai sc.data.toList=true)/\Hid (B.drop k=Np.oZ C sc.data.toList (l.drop k))
def LayA(M:Nat)(w1:World)(a:List UInt8)(l:List Np.Signed)(i:Value)(wr:World):Prop:=
 ∃ k:Nat,k<=l.length/\i = .int .i64 k/\Hid (Below M w1 wr)/\Hid (jw M (gC a (l.take k)) wr)
theorem bbQ(a:ByteArray)(v:Value)(l:List Np.Signed)(dJ:l.length<=20000)(hv:∀ x∈l,Np.ai x.set.name=true)(hs:Np.te l)(w:World)(hd:SlR az 5 w w.heap.size v l) :
 Calls prog 197 #[.agg #[.string a,v]] w λe w'=>(∃ bv,e = .returned (.agg #[.string a,v,bv])/\SlR RTx 1 w' w'.heap.size bv (Np.eT ⟨a.data.toList,l⟩))/\Below w.heap.size w w':=by
 obtain⟨B,Fp⟩:=aaK (Np.eT ⟨a.data.toList,l⟩);rw[Fp];have ed:=jq Fp;have dP:Hid (B.length=l.length):=jq (by rw[<-Fp];exact Np.uH _);clear Fp;have HV:=jq hv;have HS:=jq hs;have HD:=jq hd;obtain⟨A,c,rfl,aR,cP⟩:=ba hd;clear hv hs hd;have pk:∀ (w:World),(Instr.makeMap 212 none).run prog w = .ok (.map (some w.heap.size)) (w.alloc (.map #[] 0)):=λw=>by
  simp[Instr.makeMap,Result.andThen]
 have HW:Hid (∀ o o' o'',Below w.heap.size w (((w.alloc o).alloc o').alloc o'')):=jq (λo o' o''=>(((vQ _ w).alloc (bQ _) _).alloc (by simp) _).alloc (by simp;omega) _);go_enter func197,ntmps197;go_wp2_with fail;obtain⟨w1,ah⟩:=aaK (((w.alloc (.cells #[.string a,.slice A l.length c] 176)).alloc (.cells #[.string ⟨#[]⟩,.slice none 0 0,.slice none 0 0] 217)).alloc (.map #[] 0));have c0:w1.cell? ⟨w.heap.size,0,none⟩=some (.string a):=by rw[<-ah];simp[go_sem]
 have c1:w1.cell? ⟨w.heap.size,1,none⟩=some (.slice A l.length c):=by rw[<-ah];simp[go_sem]
 have e0:w1.cell? ⟨w.heap.size+1,0,none⟩=some (.string ⟨#[]⟩):=by rw[<-ah];simp[go_sem]
 have e1:w1.cell? ⟨w.heap.size+1,1,none⟩=some (.slice none 0 0):=by rw[<-ah];simp[go_sem]
 have e2:w1.cell? ⟨w.heap.size+1,2,none⟩=some (.slice none 0 0):=by rw[<-ah];simp[go_sem]
 have eH:w1.heap.size=w.heap.size+3:=by rw[<-ah];simp
 have EA:Hid (jw (w.heap.size+1+1) [] w1):=jq (by
  have:=jw.made ((w.alloc (.cells #[.string a,.slice A l.length c] 176)).alloc (.cells #[.string ⟨#[]⟩,.slice none 0 0,.slice none 0 0] 217))
  rw[<-ah];simpa using this)
 have ay:Hid (Below w.heap.size w w1):=jq (by rw[<-ah];exact HW.out _ _ _);have WY:Hid (∀ j,w1.frozen? ⟨w.heap.size+1,j,none⟩=false):=jq (λj=>by rw[<-ah];simp[go_sem]);have HC:=jq (And.intro c0 (And.intro c1 (And.intro e0 (And.intro e1 e2))));rw[ah];clear ah c0 c1 e0 e1 e2;obtain⟨M,hM⟩:=aaK (w.heap.size+1+1);rw[hM] at EA |-;go_loopw [18] (λi wr=>LayA M w1 a.data.toList l i wr) (λi _=>l.length - (intOf i).toNat)
 case atStart=>exact⟨0,jQ _,rfl,jq (vQ _ _),EA⟩
 case round=>
  obtain⟨k,hk,rfl,HB,HM⟩:=hrel;have aB:=HB.out.size;obtain⟨c0,c1,e0,e1,e2⟩:=HC.out;have d0:wr.cell? ⟨w.heap.size,0,none⟩=some (.string a):=by rw[HB.out.cell (by simp;omega)];exact c0
  have d1:wr.cell? ⟨w.heap.size,1,none⟩=some (.slice A l.length c):=by rw[HB.out.cell (by simp;omega)];exact c1
  have rL:=HM.out.lt;have gO:w.heap.size<wr.heap.size:=by omega
  have aD:Hid (Below w.heap.size w wr):=aaZ ay HB.out;have If:Hid (∀ j,wr.frozen? ⟨w.heap.size+1,j,none⟩=false):=jq (λj=>(HB.out.frozen (p:=⟨w.heap.size+1,j,none⟩) (by dsimp only;omega)).trans (WY.out j));have Bc:Hid (wr.cell? ⟨w.heap.size+1,0,none⟩=some (.string ⟨#[]⟩)/\wr.cell? ⟨w.heap.size+1,1,none⟩=some (.slice none 0 0)/\wr.cell? ⟨w.heap.size+1,2,none⟩=some (.slice none 0 0)):=jq ⟨(HB.out.cell (by dsimp only;omega)).trans e0,(HB.out.cell (by dsimp only;omega)).trans e1,(HB.out.cell (by dsimp only;omega)).trans e2⟩;clear c0 c1 e0 e1 e2;by_cases ag:k<l.length
  ·have aF:=aQ ag;obtain⟨b,o,c',sn,dv,sv,hA,cX,_,aP,fK,aV,aZ,f0,f1,f2,f3,f4⟩:=dN (HD.out.keep ax aD.out) aF
   cases hA
   have ht:l.take (k+1)=l.take k ++ [l[k]]:=fQ ag;have X6:Hid (l[k].set.type=2->(gC a.data.toList (l.take k)).lookup sn.data.toList=none):=jq (λh2=>by
    refine (Fd _ _ _).2 λy hy h3 he=>?_;obtain⟨j,hj,rfl⟩:=nQ.1 hy;rw[List.length_take] at hj;have h4:=GW HS.out (aQ (show j<l.length by omega)) aF (by omega);rw[List.getElem_take] at h3 he;have h5:Np.bV l[j].set=Np.bV l[k].set:=by unfold Np.bV;rw[h3,h2,he,aP]
    rw[h5,Np.yn.self] at h4;omega)
   have HT:Hid (∀ kv,(if l[k].set.type=2/\l[k].set.name≠a.data.toList then gC a.data.toList (l.take k) ++ [(l[k].set.name,.bool true)] else gC a.data.toList (l.take k))=kv->gC a.data.toList (l.take (k+1))=kv):=jq (λkv h=>by rw[ht,aqQ];exact h);generalize hx:l[k]=x at *;clear hx ht;obtain⟨Ad,cd,rfl,_,_⟩:=ba aV;obtain⟨As,cs,rfl,_,_⟩:=ba aZ;have bU:=jq aP;have eK:Hid (∀ o,Below wr.heap.size wr (wr.alloc o)):=jq (λo=>blAl);have cu:Hid (∀ o,Below M w1 (wr.alloc o)):=jq (λo=>HB.out.alloc (by omega) _);clear aF aP aV aZ;by_cases h2:x.set.type=2
   ·have ae:(x.set.type == 2)=true:=by simpa using h2
    by_cases hn:x.set.name=a.data.toList
    ·have eU:(!sn.toList == a.toList)=false:=by rw[dQ,dQ,bU.out,hn];simp
     have fz:=jq (HT.out _ (Qc λh=>h.2 hn));clear h2 hn;go_wp2_with fail;go_roundw
     case rel=>exact⟨k+1,by omega,by go_num,jq (cu.out _),jq (by rw[fz.out];exact HM.out.keep (eK.out _) rL)⟩
     ·simp[intOf]<;>omega
    ·have eU:(!sn.toList == a.toList)=true:=by rw[dQ,dQ,bU.out];simpa using hn
     have fz:=jq (HT.out _ (QbQ ⟨h2,hn⟩));have lG:=jq (X6.out h2);clear h2 hn;go_wp2_with (at_mapUpdate;refine Vx _ rfl _ _ _ 212 rfl 9 4 underlying212 underlying9 M (gC a.data.toList (l.take k)) rfl (HM.out.keep (eK.out _) rL) sn.data.toList rfl (.bool true) rfl lG.out ?_;intro w5 Sm SZ;have H5:=jq (And.intro Sm SZ);clear Sm SZ);go_roundw
     case rel=>exact⟨k+1,by omega,by go_num,jq ((cu.out _).trans (H5.out.2.below (bQ _))),jq (by rw[fz.out,<-bU.out];exact H5.out.1)⟩
     ·simp[intOf]<;>omega
   ·have ae:(x.set.type == 2)=false:=by simpa using h2
    have fz:=jq (HT.out _ (Qc λh=>h2 h.1));clear h2;go_wp2_with fail;go_roundw
    case rel=>exact⟨k+1,by omega,by go_num,jq (cu.out _),jq (by rw[fz.out];exact HM.out.keep (eK.out _) rL)⟩
    ·simp[intOf]<;>omega
  ·have fZ:k=l.length:=by omega
   subst fZ;rw[List.take_length] at HM;go_wp2_with fail;have fd:=LL l.length dJ;have HZ:Hid (∀ j,j<l.length->(madeCells #[Value.string ⟨#[]⟩] l.length)[j]?=some (.string ⟨#[]⟩)):=jq (λj hj=>LK _ _ hj);generalize madeCells #[Value.string ⟨#[]⟩] l.length=Z at fd HZ;have Ej:=jq (And.intro d0 d1);have EE:Hid (∀ (Bl Bs:Nat) (w5:World),Below wr.heap.size wr w5->M<Bl->M<Bs->Bl≠Bs->Bl<w5.heap.size->Bs<w5.heap.size->w5.cell? ⟨Bl,0,none⟩=some (.string a)->w5.cell? ⟨Bl,1,none⟩=some (.slice A l.length c)->w5.cell? ⟨Bl,2,none⟩=some (.slice (some ⟨Bs,0,none⟩) l.length l.length)->(∀ j,j<l.length->w5.cell? ⟨Bs,j,none⟩=some (.string ⟨#[]⟩))->(∀ j,w5.frozen? ⟨Bs,j,none⟩=false)->
    LayB w.heap.size M Bl Bs/\LayK w M Bl Bs a (.slice A l.length c) (.slice (some ⟨Bs,0,none⟩) l.length l.length) (gC a.data.toList l) w5 (List.replicate l.length [])):=jq (λBl Bs w5 hb h1 h2 h3 h4 h5 k0 k1 k2 hz zz=>by
    refine⟨⟨by omega,h1,h2,h3⟩,aD.out.trans (hb.abQ),(hb.cell (by dsimp only;omega)).trans Ej.out.1,(hb.cell (by dsimp only;omega)).trans Ej.out.2,(hb.cell (by dsimp only;omega)).trans Bc.out.1,(hb.cell (by dsimp only;omega)).trans Bc.out.2.1,(hb.cell (by dsimp only;omega)).trans Bc.out.2.2,k0,k1,k2,HM.out.keep hb rL,λj x hx=>?_,h4,h5,λj=>(hb.frozen (by dsimp only;omega)).trans (If.out j)⟩;rw[List.getElem?_replicate] at hx;split at hx
    ·rename_i hj
     cases hx
     exact⟨⟨#[]⟩,rfl,by decide,hz j hj,zz j⟩
    ·cases hx)
   go_region
   ·obtain⟨w5,aS⟩:=aaK (((wr.alloc (.cells Z 9)).alloc (.cells #[.string a,.slice A l.length c,.slice (some ⟨wr.heap.size,0,none⟩) l.length l.length] 217)).drew);have aO:Below wr.heap.size wr w5:=by rw[<-aS];exact ((blAl).alloc (by simp) _).drew
    have hp:=EE.out (wr.heap.size+1) wr.heap.size w5 aO (by omega) (by omega) (by omega) (by rw[<-aS];simp) (by rw[<-aS];simp;omega) (by rw[<-aS];simp[go_sem]) (by rw[<-aS];simp[go_sem]) (by rw[<-aS];simp[go_sem]) (λj hj=>by rw[<-aS];simp[go_sem];exact HZ.out j hj) (λj=>by rw[<-aS];simp[go_sem]);rw[aS];obtain⟨Cn,Co⟩:=hp;have iq:=jq Cn;have cV:=jq Co;clear aS aO Cn Co fd EE HZ Bc Ej HB aD d0 d1;generalize wr.heap.size+1=X1 at *;generalize wr.heap.size=X0 at *;have c50:=cV.out.b0;have c51:=cV.out.b1;go_wp2_with fail;clear c50 c51;go_loopw [7,51] (λvc i wr=>PI w M X1 X0 a (.slice A l.length c) (.slice (some ⟨X0,0,none⟩) l.length l.length) (gC a.data.toList l) B (Np.dz ⟨a.data.toList,l⟩) l vc i wr) (λ_ i _=>l.length - (intOf i).toNat)
    case atStart=>exact⟨0,⟨#[]⟩,jQ _,rfl,rfl,by decide,jq cV.out,jq (.inl rfl),jq (by rw[<-ed.out];rfl)⟩
    case round=>
     obtain⟨k,sc,hk,rfl,rfl,dM,HK,rz,HE⟩:=hrel;have jE:=HK.out.l2;have cO:=HK.out.blt;have nA:=HK.out.slt;have rL:=HK.out.map.lt;have tX:=HK.out.below.size;by_cases ag:k<l.length
     ·have aF:=aQ ag;obtain⟨b,o,c',sn,dv,sv,hA,cX,_,aP,fK,aV,aZ,f0,f1,f2,f3,f4⟩:=dN (HD.out.keep ax HK.out.below) aF
      cases hA
      have eN:Hid (Np.ai sn.data.toList=true):=jq (by rw[aP];exact HV.out _ (List.getElem_mem ag));have gl:Hid (B[k]?=some (Np.ew (Np.dz ⟨a.data.toList,l⟩) sc.data.toList sn.data.toList)/\B.drop (k+1)=Np.oZ (Np.dz ⟨a.data.toList,l⟩) (Np.ew (Np.dz ⟨a.data.toList,l⟩) sc.data.toList sn.data.toList) (l.drop (k+1))):=jq (by
       have h1:=HE.out;rw[sQ ag,Np.oZ,<-aP] at h1;refine⟨?_,?_⟩
       ·have:=List.getElem?_drop (xs:=B) (i:=k) (j:=0)
        rw[h1,Nat.add_zero] at this;exact this.symm
       ·have:=Qd (List.drop 1) h1
        rw[List.drop_drop] at this;simpa using this)
      obtain⟨s0,_,_,jJ,uT⟩:=HK.out.row k [] (by
       rw[oQ (by rw[List.length_take];omega),List.length_take,dP.out,show k - min k l.length=0 by omega,List.getElem?_replicate,QbQ (by omega)])
      have pR:Hid (∀ (wx:World) (s:ByteArray),Below wr.heap.size wr wx->s.size<=140737488355328->s.data.toList=Np.ew (Np.dz ⟨a.data.toList,l⟩) sc.data.toList sn.data.toList->LayK w M X1 X0 a (.slice (some ⟨b,o,none⟩) l.length c) (.slice (some ⟨X0,0,none⟩) l.length l.length) (gC a.data.toList l) (wx.setCell ⟨X0,k,none⟩ (.string s)) (B.take (k+1)++List.replicate (l.length - (k+1)) [])):=jq (λwx s hb aB hs=>by
       rw[<-Uy dP.out gl.out.1,<-hs];exact (HK.out.keep iq.out hb).store iq.out (by rw[List.length_append,List.length_take,List.length_replicate,dP.out];omega) s aB)
      have yS:=jq HK.out.map;have eK:Hid (∀ o,Below wr.heap.size wr (wr.alloc o)):=jq (λo=>blAl);generalize hx:l[k]=x at *;clear hx aF;obtain⟨Ad,cd,rfl,_,_⟩:=ba aV;obtain⟨As,cs,rfl,_,_⟩:=ba aZ;clear aP aV aZ;have df:=kNN k;have dg:(k:Int)<(l.length:Int):=by omega
      obtain⟨cb,lY⟩:=aaK (Np.dz ⟨a.data.toList,l⟩ sn.data.toList);have mv:=jq lY;have sY:Hid (((gC a.data.toList l).lookup sn.data.toList).getD (.bool false) = .bool cb):=jq (by rw[<-lY];exact (Fd _ _ l).1);clear lY;have vZ:Hid (∀ wx,Below wr.heap.size wr wx->Sem.run prog (Instr.lookup 212 (.map (some M)) (.string sn) false) wx = .ok (.bool cb) wx):=jq (λwx hb=>by
       have:=Ma (P:=prog) wx 212 9 4 underlying212 underlying9 M (gC a.data.toList l) (yS.out.keep hb rL) sn.data.toList (.bool false) (by kernel_rfl)
       rw[sY.out] at this;exact this)
      by_cases hce:sc.data.toList = []
      ·obtain rfl:sc=⟨#[]⟩:=iV hce;have eM:Hid (cb=true->sn.data.toList=Np.ew (Np.dz ⟨a.data.toList,l⟩) [] sn.data.toList):=jq (λh=>by
        unfold Np.ew;rw[mv.out,h];simp)
       have eC:Hid (cb=false->[]=Np.ew (Np.dz ⟨a.data.toList,l⟩) [] sn.data.toList):=jq (λh=>by
        unfold Np.ew;rw[mv.out,h];simp)
       clear hce
       cases cb with
       | true=>
        have ep:∀ o,Sem.run prog (Instr.lookup 212 (.map (some M)) (.string sn) false) (wr.alloc o) = .ok (.bool true) (wr.alloc o):=λo=>vZ.out _ (eK.out o);go_wp2_with fail;go_roundw
        case rel=>exact⟨k+1,sn,by omega,by go_num,rfl,fK,jq ((pR.out wr sn (vQ _ _) fK (eM.out (by simp))).keep iq.out (blAl)),jq (.inr eN.out),jq (by rw[eM.out (by simp)];exact gl.out.2)⟩
        ·simp[intOf]<;>omega
       | false=>
        have ep:∀ o,Sem.run prog (Instr.lookup 212 (.map (some M)) (.string sn) false) (wr.alloc o) = .ok (.bool false) (wr.alloc o):=λo=>vZ.out _ (eK.out o);go_wp2_with fail;go_roundw
        case rel=>exact⟨k+1,⟨#[]⟩,by omega,by go_num,rfl,by decide,jq ((pR.out wr ⟨#[]⟩ (vQ _ _) (by decide) (eC.out (by simp))).keep iq.out (blAl)),jq (.inl rfl),jq (by rw[show (⟨#[]⟩:ByteArray).data.toList = [] from rfl,eC.out (by simp)];exact gl.out.2)⟩
        ·simp[intOf]<;>omega
      ·have aSJ:(!sc.toList == [])=true:=by rw[dQ];simpa using hce
       have zF:(sc.toList == [])=false:=by rw[dQ];simpa using hce
       have oa:Hid (Np.ai sc.data.toList=true):=jq (rz.out.resolve_left hce);have lE:=jq hce;have hMs:M<wr.heap.size:=rL;clear hce;go_wp2_with fail;refine (vJ sn sc fK dM _ eN.out oa.out).mono ?_;rintro e w2 ⟨rfl,ae⟩;have am:=jq ((eK.out _).trans (ae.mono (by simp)));have ei:w2.cell? ⟨X1,2,none⟩=some (.slice (some ⟨X0,0,none⟩) l.length l.length):=aaQ am.out jE;have ga:w2.cell? ⟨X0,k,none⟩=some (.string s0):=aaQ am.out jJ;have bL:=am.out.size;have hf2:w2.frozen? ⟨X0,k,none⟩=false:=(am.out.frozen (by dsimp only;omega)).trans uT;clear ae jE jJ uT
       cases fL:Np.aW sn.data.toList sc.data.toList with
       | true=>
        have eM:Hid (sc.data.toList=Np.ew (Np.dz ⟨a.data.toList,l⟩) sc.data.toList sn.data.toList):=jq (by
         unfold Np.ew;simp[lE.out,fL])
        clear fL;go_wp2_with fail;go_roundw
        case rel=>exact⟨k+1,sc,by omega,by go_num,rfl,dM,jq (pR.out _ sc am.out dM eM.out),jq (.inr oa.out),jq (by rw[eM.out];exact gl.out.2)⟩
        ·simp[intOf]<;>omega
       | false=>
        have eM:Hid (cb=true->sn.data.toList=Np.ew (Np.dz ⟨a.data.toList,l⟩) sc.data.toList sn.data.toList):=jq (λh=>by
         unfold Np.ew;rw[mv.out,h];simp[fL,lE.out])
        have eC:Hid (cb=false->[]=Np.ew (Np.dz ⟨a.data.toList,l⟩) sc.data.toList sn.data.toList):=jq (λh=>by
         unfold Np.ew;rw[mv.out,h];simp[fL,lE.out])
        clear fL;have ep:=vZ.out w2 am.out
        cases cb with
        | true=>
         go_wp2_with fail;go_roundw
         case rel=>exact⟨k+1,sn,by omega,by go_num,rfl,fK,jq (pR.out _ sn am.out fK (eM.out (by simp))),jq (.inr eN.out),jq (by rw[eM.out (by simp)];exact gl.out.2)⟩
         ·simp[intOf]<;>omega
        | false=>
         go_wp2_with fail;go_roundw
         case rel=>exact⟨k+1,⟨#[]⟩,by omega,by go_num,rfl,by decide,jq (pR.out _ ⟨#[]⟩ am.out (by decide) (eC.out (by simp))),jq (.inl rfl),jq (by rw[show (⟨#[]⟩:ByteArray).data.toList = [] from rfl,eC.out (by simp)];exact gl.out.2)⟩
         ·simp[intOf]<;>omega
     ·have CT:k=l.length:=by omega
      have pO:Hid (B.take k++List.replicate (l.length - k) []=B):=jq (by rw[CT,Nat.sub_self,List.replicate_zero,List.append_nil,kQ (by rw[dP.out];exact bQ _)]);clear CT;have g0:=HK.out.l0;have g1:=HK.out.l1;have r0:=HK.out.r0;have r1:=HK.out.r1;have r2:=HK.out.r2;have rf0:=HK.out.rf 0;have rf1:=HK.out.rf 1;have rf2:=HK.out.rf 2;go_wp2_with fail;obtain⟨w6,cS⟩:=aaK (((wr.setCell ⟨w.heap.size+1,0,none⟩ (.string a)).setCell ⟨w.heap.size+1,1,none⟩ (.slice A l.length c)).setCell ⟨w.heap.size+1,2,none⟩ (.slice (some ⟨X0,0,none⟩) l.length l.length));have q0:w6.cell? ⟨w.heap.size+1,0,none⟩=some (.string a):=by rw[<-cS];simp[go_sem,r0]
      have q1:w6.cell? ⟨w.heap.size+1,1,none⟩=some (.slice A l.length c):=by rw[<-cS];simp[go_sem,r1]
      have q2:w6.cell? ⟨w.heap.size+1,2,none⟩=some (.slice (some ⟨X0,0,none⟩) l.length l.length):=by rw[<-cS];simp[go_sem,r2]
      have h1:=iq.out.map;have h2:=iq.out.row;have bH:Hid (Below w.heap.size w w6):=jq (by rw[<-cS];exact ((HK.out.below.setCell (by simp) _).setCell (by simp) _).setCell (by simp) _);have I0:Hid (SlR RTx 1 w6 w6.heap.size (.slice (some ⟨X0,0,none⟩) l.length l.length) B):=jq (by
       have h3:=HK.out.row;rw[pO.out] at h3;have h4:=((h3.other (p:=⟨w.heap.size+1,0,none⟩) (by simp;omega) (.string a)).other (p:=⟨w.heap.size+1,1,none⟩) (by simp;omega) (.slice A l.length c)).other (p:=⟨w.heap.size+1,2,none⟩) (by simp;omega) (.slice (some ⟨X0,0,none⟩) l.length l.length);rw[cS] at h4;have h5:=h4.slr (by rw[<-cS];simp;omega) (by rw[dP.out];omega);rw[dP.out] at h5;exact h5)
      rw[cS];clear cS r0 r1 r2 rf0 rf1 rf2 g0 g1 jE;refine bodyPost_ret (v:=.agg #[.string a,.slice A l.length c,.slice (some ⟨X0,0,none⟩) l.length l.length]) ?_ rfl ⟨⟨_,rfl,I0.out⟩,bH.out⟩;simp[results,results197,go_sem,q0,q1,q2]
   ·obtain⟨w5,aS⟩:=aaK (((wr.alloc (.cells #[.string a,.slice A l.length c,.slice (some ⟨wr.heap.size+1,0,none⟩) l.length l.length] 217)).alloc (.cells Z 9)).drew);have aO:Below wr.heap.size wr w5:=by rw[<-aS];exact ((blAl).alloc (by simp) _).drew
    have hp:=EE.out wr.heap.size (wr.heap.size+1) w5 aO (by omega) (by omega) (by omega) (by rw[<-aS];simp;omega) (by rw[<-aS];simp) (by rw[<-aS];simp[go_sem]) (by rw[<-aS];simp[go_sem]) (by rw[<-aS];simp[go_sem]) (λj hj=>by rw[<-aS];simp[go_sem];exact HZ.out j hj) (λj=>by rw[<-aS];simp[go_sem]);rw[aS];obtain⟨Cn,Co⟩:=hp;have iq:=jq Cn;have cV:=jq Co;clear aS aO Cn Co fd EE HZ Bc Ej HB aD d0 d1;generalize wr.heap.size+1=X0 at *;generalize wr.heap.size=X1 at *;have c50:=cV.out.b0;have c51:=cV.out.b1;go_wp2_with fail;clear c50 c51;go_loopw [7,51] (λvc i wr=>PI w M X1 X0 a (.slice A l.length c) (.slice (some ⟨X0,0,none⟩) l.length l.length) (gC a.data.toList l) B (Np.dz ⟨a.data.toList,l⟩) l vc i wr) (λ_ i _=>l.length - (intOf i).toNat)
    case atStart=>exact⟨0,⟨#[]⟩,jQ _,rfl,rfl,by decide,jq cV.out,jq (.inl rfl),jq (by rw[<-ed.out];rfl)⟩
    case round=>
     obtain⟨k,sc,hk,rfl,rfl,dM,HK,rz,HE⟩:=hrel;have jE:=HK.out.l2;have cO:=HK.out.blt;have nA:=HK.out.slt;have rL:=HK.out.map.lt;have tX:=HK.out.below.size;by_cases ag:k<l.length
     ·have aF:=aQ ag;obtain⟨b,o,c',sn,dv,sv,hA,cX,_,aP,fK,aV,aZ,f0,f1,f2,f3,f4⟩:=dN (HD.out.keep ax HK.out.below) aF
      cases hA
      have eN:Hid (Np.ai sn.data.toList=true):=jq (by rw[aP];exact HV.out _ (List.getElem_mem ag));have gl:Hid (B[k]?=some (Np.ew (Np.dz ⟨a.data.toList,l⟩) sc.data.toList sn.data.toList)/\B.drop (k+1)=Np.oZ (Np.dz ⟨a.data.toList,l⟩) (Np.ew (Np.dz ⟨a.data.toList,l⟩) sc.data.toList sn.data.toList) (l.drop (k+1))):=jq (by
       have h1:=HE.out;rw[sQ ag,Np.oZ,<-aP] at h1;refine⟨?_,?_⟩
       ·have:=List.getElem?_drop (xs:=B) (i:=k) (j:=0)
        rw[h1,Nat.add_zero] at this;exact this.symm
       ·have:=Qd (List.drop 1) h1
        rw[List.drop_drop] at this;simpa using this)
      obtain⟨s0,_,_,jJ,uT⟩:=HK.out.row k [] (by
       rw[oQ (by rw[List.length_take];omega),List.length_take,dP.out,show k - min k l.length=0 by omega,List.getElem?_replicate,QbQ (by omega)])
      have pR:Hid (∀ (wx:World) (s:ByteArray),Below wr.heap.size wr wx->s.size<=140737488355328->s.data.toList=Np.ew (Np.dz ⟨a.data.toList,l⟩) sc.data.toList sn.data.toList->LayK w M X1 X0 a (.slice (some ⟨b,o,none⟩) l.length c) (.slice (some ⟨X0,0,none⟩) l.length l.length) (gC a.data.toList l) (wx.setCell ⟨X0,k,none⟩ (.string s)) (B.take (k+1)++List.replicate (l.length - (k+1)) [])):=jq (λwx s hb aB hs=>by
       rw[<-Uy dP.out gl.out.1,<-hs];exact (HK.out.keep iq.out hb).store iq.out (by rw[List.length_append,List.length_take,List.length_replicate,dP.out];omega) s aB)
      have yS:=jq HK.out.map;have eK:Hid (∀ o,Below wr.heap.size wr (wr.alloc o)):=jq (λo=>blAl);generalize hx:l[k]=x at *;clear hx aF;obtain⟨Ad,cd,rfl,_,_⟩:=ba aV;obtain⟨As,cs,rfl,_,_⟩:=ba aZ;clear aP aV aZ;have df:=kNN k;have dg:(k:Int)<(l.length:Int):=by omega
      obtain⟨cb,lY⟩:=aaK (Np.dz ⟨a.data.toList,l⟩ sn.data.toList);have mv:=jq lY;have sY:Hid (((gC a.data.toList l).lookup sn.data.toList).getD (.bool false) = .bool cb):=jq (by rw[<-lY];exact (Fd _ _ l).1);clear lY;have vZ:Hid (∀ wx,Below wr.heap.size wr wx->Sem.run prog (Instr.lookup 212 (.map (some M)) (.string sn) false) wx = .ok (.bool cb) wx):=jq (λwx hb=>by
       have:=Ma (P:=prog) wx 212 9 4 underlying212 underlying9 M (gC a.data.toList l) (yS.out.keep hb rL) sn.data.toList (.bool false) (by kernel_rfl)
       rw[sY.out] at this;exact this)
      by_cases hce:sc.data.toList = []
      ·obtain rfl:sc=⟨#[]⟩:=iV hce;have eM:Hid (cb=true->sn.data.toList=Np.ew (Np.dz ⟨a.data.toList,l⟩) [] sn.data.toList):=jq (λh=>by
        unfold Np.ew;rw[mv.out,h];simp)
       have eC:Hid (cb=false->[]=Np.ew (Np.dz ⟨a.data.toList,l⟩) [] sn.data.toList):=jq (λh=>by
        unfold Np.ew;rw[mv.out,h];simp)
       clear hce
       cases cb with
       | true=>
        have ep:∀ o,Sem.run prog (Instr.lookup 212 (.map (some M)) (.string sn) false) (wr.alloc o) = .ok (.bool true) (wr.alloc o):=λo=>vZ.out _ (eK.out o);go_wp2_with fail;go_roundw
        case rel=>exact⟨k+1,sn,by omega,by go_num,rfl,fK,jq ((pR.out wr sn (vQ _ _) fK (eM.out (by simp))).keep iq.out (blAl)),jq (.inr eN.out),jq (by rw[eM.out (by simp)];exact gl.out.2)⟩
        ·simp[intOf]<;>omega
       | false=>
        have ep:∀ o,Sem.run prog (Instr.lookup 212 (.map (some M)) (.string sn) false) (wr.alloc o) = .ok (.bool false) (wr.alloc o):=λo=>vZ.out _ (eK.out o);go_wp2_with fail;go_roundw
        case rel=>exact⟨k+1,⟨#[]⟩,by omega,by go_num,rfl,by decide,jq ((pR.out wr ⟨#[]⟩ (vQ _ _) (by decide) (eC.out (by simp))).keep iq.out (blAl)),jq (.inl rfl),jq (by rw[show (⟨#[]⟩:ByteArray).data.toList = [] from rfl,eC.out (by simp)];exact gl.out.2)⟩
        ·simp[intOf]<;>omega
      ·have aSJ:(!sc.toList == [])=true:=by rw[dQ];simpa using hce
       have zF:(sc.toList == [])=false:=by rw[dQ];simpa using hce
       have oa:Hid (Np.ai sc.data.toList=true):=jq (rz.out.resolve_left hce);have lE:=jq hce;have hMs:M<wr.heap.size:=rL;clear hce;go_wp2_with fail;refine (vJ sn sc fK dM _ eN.out oa.out).mono ?_;rintro e w2 ⟨rfl,ae⟩;have am:=jq ((eK.out _).trans (ae.mono (by simp)));have ei:w2.cell? ⟨X1,2,none⟩=some (.slice (some ⟨X0,0,none⟩) l.length l.length):=aaQ am.out jE;have ga:w2.cell? ⟨X0,k,none⟩=some (.string s0):=aaQ am.out jJ;have bL:=am.out.size;have hf2:w2.frozen? ⟨X0,k,none⟩=false:=(am.out.frozen (by dsimp only;omega)).trans uT;clear ae jE jJ uT
       cases fL:Np.aW sn.data.toList sc.data.toList with
       | true=>
        have eM:Hid (sc.data.toList=Np.ew (Np.dz ⟨a.data.toList,l⟩) sc.data.toList sn.data.toList):=jq (by
         unfold Np.ew;simp[lE.out,fL])
        clear fL;go_wp2_with fail;go_roundw
        case rel=>exact⟨k+1,sc,by omega,by go_num,rfl,dM,jq (pR.out _ sc am.out dM eM.out),jq (.inr oa.out),jq (by rw[eM.out];exact gl.out.2)⟩
        ·simp[intOf]<;>omega
       | false=>
        have eM:Hid (cb=true->sn.data.toList=Np.ew (Np.dz ⟨a.data.toList,l⟩) sc.data.toList sn.data.toList):=jq (λh=>by
         unfold Np.ew;rw[mv.out,h];simp[fL,lE.out])
        have eC:Hid (cb=false->[]=Np.ew (Np.dz ⟨a.data.toList,l⟩) sc.data.toList sn.data.toList):=jq (λh=>by
         unfold Np.ew;rw[mv.out,h];simp[fL,lE.out])
        clear fL;have ep:=vZ.out w2 am.out
        cases cb with
        | true=>
         go_wp2_with fail;go_roundw
         case rel=>exact⟨k+1,sn,by omega,by go_num,rfl,fK,jq (pR.out _ sn am.out fK (eM.out (by simp))),jq (.inr eN.out),jq (by rw[eM.out (by simp)];exact gl.out.2)⟩
         ·simp[intOf]<;>omega
        | false=>
         go_wp2_with fail;go_roundw
         case rel=>exact⟨k+1,⟨#[]⟩,by omega,by go_num,rfl,by decide,jq (pR.out _ ⟨#[]⟩ am.out (by decide) (eC.out (by simp))),jq (.inl rfl),jq (by rw[show (⟨#[]⟩:ByteArray).data.toList = [] from rfl,eC.out (by simp)];exact gl.out.2)⟩
         ·simp[intOf]<;>omega
     ·have CT:k=l.length:=by omega
      have pO:Hid (B.take k++List.replicate (l.length - k) []=B):=jq (by rw[CT,Nat.sub_self,List.replicate_zero,List.append_nil,kQ (by rw[dP.out];exact bQ _)]);clear CT;have g0:=HK.out.l0;have g1:=HK.out.l1;have r0:=HK.out.r0;have r1:=HK.out.r1;have r2:=HK.out.r2;have rf0:=HK.out.rf 0;have rf1:=HK.out.rf 1;have rf2:=HK.out.rf 2;go_wp2_with fail;obtain⟨w6,cS⟩:=aaK (((wr.setCell ⟨w.heap.size+1,0,none⟩ (.string a)).setCell ⟨w.heap.size+1,1,none⟩ (.slice A l.length c)).setCell ⟨w.heap.size+1,2,none⟩ (.slice (some ⟨X0,0,none⟩) l.length l.length));have q0:w6.cell? ⟨w.heap.size+1,0,none⟩=some (.string a):=by rw[<-cS];simp[go_sem,r0]
      have q1:w6.cell? ⟨w.heap.size+1,1,none⟩=some (.slice A l.length c):=by rw[<-cS];simp[go_sem,r1]
      have q2:w6.cell? ⟨w.heap.size+1,2,none⟩=some (.slice (some ⟨X0,0,none⟩) l.length l.length):=by rw[<-cS];simp[go_sem,r2]
      have h1:=iq.out.map;have h2:=iq.out.row;have bH:Hid (Below w.heap.size w w6):=jq (by rw[<-cS];exact ((HK.out.below.setCell (by simp) _).setCell (by simp) _).setCell (by simp) _);have I0:Hid (SlR RTx 1 w6 w6.heap.size (.slice (some ⟨X0,0,none⟩) l.length l.length) B):=jq (by
       have h3:=HK.out.row;rw[pO.out] at h3;have h4:=((h3.other (p:=⟨w.heap.size+1,0,none⟩) (by simp;omega) (.string a)).other (p:=⟨w.heap.size+1,1,none⟩) (by simp;omega) (.slice A l.length c)).other (p:=⟨w.heap.size+1,2,none⟩) (by simp;omega) (.slice (some ⟨X0,0,none⟩) l.length l.length);rw[cS] at h4;have h5:=h4.slr (by rw[<-cS];simp;omega) (by rw[dP.out];omega);rw[dP.out] at h5;exact h5)
      rw[cS];clear cS r0 r1 r2 rf0 rf1 rf2 g0 g1 jE;refine bodyPost_ret (v:=.agg #[.string a,.slice A l.length c,.slice (some ⟨X0,0,none⟩) l.length l.length]) ?_ rfl ⟨⟨_,rfl,I0.out⟩,bH.out⟩;simp[results,results197,go_sem,q0,q1,q2]
theorem uc{w:World}{B n c:Nat}{A:Option Addr}{xs:List (List UInt8)}(h:SlR RTx 1 w B (.slice A n c) xs){k:Nat}{x:List UInt8}(hx:xs[k]?=some x):∃ (b o:Nat) (s:ByteArray),A=some ⟨b,o,none⟩/\b<B/\s.data.toList=x/\s.size<=140737488355328/\w.cell? ⟨b,o+k,none⟩=some (.string s):=by
 obtain⟨A',c',hv,hc,_,he⟩:=h;simp only[Value.slice.injEq] at hv;obtain⟨rfl,_,_⟩:=hv;obtain⟨b,o,e,rfl,hb,_,hce,s,h1,h2,rfl⟩:=he k x hx;exact⟨b,o,s,rfl,hb,h1,h2,by have:=hce 0 _ rfl;simpa using this⟩
def Np.rm(l:List Np.Signed)(B:List (List UInt8)):Prop:=∀ (i:Nat) (x:Np.Signed) (b:List UInt8),l[i]?=some x->B[i]?=some b->Np.nc x.set b
def Np.BY(l:List Np.Signed)(B:List (List UInt8)):Prop:=∀ (i:Nat) (x:Np.Signed) (b:List UInt8),l[i]?=some x->B[i]?=some b->b≠[]->x.set.type=2\/x.set.type=1->x.sigs = []
theorem Qm{x:Np.DSet}{b:List UInt8}(hb:b = []):Np.nc x b↔x.type≠6:=by
 subst hb;exact⟨λh=>h.1 rfl,λh=>⟨λ_=>h,λh2=>absurd rfl h2,λh2=>absurd rfl h2⟩⟩
theorem Qn{x:Np.DSet}{b:List UInt8}(hb:b≠[])(he:b=x.name):Np.nc x b↔(x.type=2\/x.type=6\/x.type=8\/x.type=1):=
 ⟨λh=>h.2.1 hb he,λh=>⟨λh2=>absurd h2 hb,λ_ _=>h,λ_ h2=>absurd he h2⟩⟩
theorem Qo{x:Np.DSet}{b:List UInt8}(hb:b≠[])(he:b≠x.name):Np.nc x b↔x.type=1:=
 ⟨λh=>h.2.2 hb he,λh=>⟨λh2=>absurd h2 hb,λ_ h2=>absurd h2 he,λ_ _=>h⟩⟩
theorem aqY(a:ByteArray)(v bv:Value)(l:List Np.Signed)(B:List (List UInt8))(j8:B.length=l.length)(w:World)(hd:SlR az 5 w w.heap.size v l)(ez:SlR RTx 1 w w.heap.size bv B) :
 Calls prog 199 #[.agg #[.string a,v,bv]] w (aCX w.heap.size w (.bool (Np.yes (Np.rm l B)))):=by
 obtain⟨r,hr⟩:=aaK (Np.yes (Np.rm l B));rw[hr];have HR:=jq hr;have dP:=jq j8;have HD:=jq hd;have aJ:=jq ez;obtain⟨A,c,rfl,aR,cP⟩:=ba hd;obtain⟨A2,c2,rfl,cH,ei⟩:=ba ez;rw[j8] at cH ei aJ |-;clear hr hd ez j8;have HW:=blW w;go_enter func199,ntmps199;go_wp2_with fail;obtain⟨w1,ah⟩:=aaK (w.alloc (.cells #[.string a,.slice A l.length c,.slice A2 l.length c2] 217));have c2':w1.cell? ⟨w.heap.size,2,none⟩=some (.slice A2 l.length c2):=by rw[<-ah];simp[go_sem]
 have eH:w.heap.size<w1.heap.size:=by rw[<-ah];simp
 have ay:Hid (Below w.heap.size w w1):=jq (by rw[<-ah];exact HW.out _);rw[ah];clear ah;go_loopw [11] (λi wr=>∃ k:Nat,k<=l.length/\i = .int .i64 k/\Hid (Below w1.heap.size w1 wr)/\Hid (∀ j x b,j<k->l[j]?=some x->B[j]?=some b->Np.nc x.set b)) (λi _=>l.length - (intOf i).toNat)
 case atStart=>exact⟨0,jQ _,rfl,jq (vQ _ _),jq (λj x b hj=>by omega)⟩
 case round=>
  obtain⟨k,hk,rfl,HB,HA⟩:=hrel;have aB:=HB.out.size;have aD:=aaZ ay HB.out;by_cases ag:k<l.length
  ·obtain⟨x,aF⟩:∃ x,l[k]?=some x:=⟨_,aQ ag⟩;obtain⟨bb,fp⟩:∃ bb,B[k]?=some bb:=⟨_,aQ (by rw[dP.out];omega)⟩;obtain⟨b,o,c',sn,dv,sv,hA,cX,_,aP,fK,aV,aZ,e0,e1,e2,e3,e4⟩:=dN (HD.out.keep ax aD.out) aF
   cases hA
   obtain⟨b2,o2,sb,rfl,zy,qO,La,g0⟩:=uc (aJ.out.keep jp aD.out) fp;have HN:Hid (Np.nc x.set bb->∀ j x b,j<k+1->l[j]?=some x->B[j]?=some b->Np.nc x.set b):=jq (λh j x b hj hx hb=>by
    by_cases e:j=k
    ·subst e;rw[aF] at hx;rw[fp] at hb;cases hx;cases hb;exact h
    ·exact HA.out j x b (by omega) hx hb)
   have HF:Hid (¬ Np.nc x.set bb->r=false):=jq (λh=>by
    rw[<-HR.out];exact Np.eX λq=>h (q k _ _ aF fp))
   clear aF fp;obtain⟨Ad,cd,rfl,_,_⟩:=ba aV;obtain⟨As,cs,rfl,_,_⟩:=ba aZ;have hcell:wr.cell? ⟨w.heap.size,2,none⟩=some (.slice (some ⟨b2,o2,none⟩) l.length c2):=aaQ HB.out c2';have gO:w.heap.size<wr.heap.size:=by omega
   have av:b<wr.heap.size:=by omega
   have ae:b2<wr.heap.size:=by omega
   have cu:Hid (∀ o,Below w1.heap.size w1 (wr.alloc o)):=jq (λo=>HB.out.alloc HB.out.size _);have pK:Hid (∀ o,Below w.heap.size w (wr.alloc o)):=jq (λo=>aD.out.alloc (by omega) _);have df:=kNN k;have dg:(k:Int)<(l.length:Int):=by omega
   have bU:=jq aP;have mB:=jq qO;obtain⟨ty,bm⟩:=aaK x.set.type;have fj:=jq bm;rw[bm] at e1;clear aP qO aV aZ bm;by_cases cG:bb = []
   ·obtain rfl:sb=⟨#[]⟩:=iV (by rw[mB.out,cG]);have dj:=jq (Qm (x:=x.set) cG);clear cG;by_cases h6:ty=6
    ·have HX:Hid (r=false):=jq (HF.out λh=>(dj.out.1 h) (fj.out.trans h6));subst h6;go_wp2_with fail;go_ret;exact⟨aj HX.out.symm,pK.out _⟩
    ·have HX:=jq (HN.out (dj.out.2 λh=>h6 (fj.out.symm.trans h)));have h6':(ty == 6)=false:=by simpa using h6
     clear h6;go_wp2_with fail;go_roundw
     case rel=>exact⟨k+1,by omega,by go_num,jq (cu.out _),jq HX.out⟩
     ·simp[intOf]<;>omega
   ·have zF:(sb.toList == [])=false:=by rw[dQ,mB.out];simpa using cG
    by_cases eU:bb=x.set.name
    ·have Km:(sb.toList == sn.toList)=true:=by rw[dQ,dQ,mB.out,bU.out];simpa using eU
     have dj:=jq (Qn (x:=x.set) cG eU);clear cG eU;by_cases ht:ty=2\/ty=6\/ty=8\/ty=1
     ·have HX:=jq (HN.out (dj.out.2 (by rw[fj.out];exact ht)));rcases ht with rfl | rfl | rfl | rfl
      all_goals
       go_wp2_with fail;go_roundw
       case rel=>exact⟨k+1,by omega,by go_num,jq (cu.out _),jq HX.out⟩
       ·simp[intOf]<;>omega
     ·have HX:Hid (r=false):=jq (HF.out λh=>ht (by have:=dj.out.1 h;rwa [fj.out] at this));have t1:(ty != 2)=true:=by simp;omega
      have t2:(ty != 6)=true:=by simp;omega
      have t3:(ty != 8)=true:=by simp;omega
      have t4:(ty != 1)=true:=by simp;omega
      clear ht;go_wp2_with fail;go_ret;exact⟨aj HX.out.symm,pK.out _⟩
    ·have Km:(sb.toList == sn.toList)=false:=by rw[dQ,dQ,mB.out,bU.out];simpa using eU
     have dj:=jq (Qo (x:=x.set) cG eU);clear cG eU;by_cases ht:ty=1
     ·have HX:=jq (HN.out (dj.out.2 (by rw[fj.out];exact ht)));subst ht;go_wp2_with fail;go_roundw
      case rel=>exact⟨k+1,by omega,by go_num,jq (cu.out _),jq HX.out⟩
      ·simp[intOf]<;>omega
     ·have HX:Hid (r=false):=jq (HF.out λh=>ht (by have:=dj.out.1 h;rwa [fj.out] at this));have t4:(ty != 1)=true:=by simpa using ht
      clear ht;go_wp2_with fail;go_ret;exact⟨aj HX.out.symm,pK.out _⟩
  ·go_wp2_with fail;go_ret;refine⟨aj ?_,aD.out⟩;rw[<-HR.out];exact (Np.gY λi x b hx hb=>HA.out i x b (by have:=(cQ.1 hx).1;omega) hx hb).symm
def Np.AF(l:List Np.Signed)(k:Nat)(x:Np.Signed):Prop:=x.set.type=3->(∀ p,0<k->l[k - 1]?=some p->p.set.name≠x.set.name)/\∀ n,l[k+1]?=some n->n.set.name=x.set.name->n.set.type=8
def Np.AG(l:List Np.Signed):Prop:=∀ k x,l[k]?=some x->Np.AF l k x
theorem aiQ(a:ByteArray)(v:Value)(A2:Option Addr)(n2 c2:Nat)(l:List Np.Signed)(dJ:l.length<=20000)(w:World)(hd:SlR az 5 w w.heap.size v l) :
 Calls prog 198 #[.agg #[.string a,v,.slice A2 n2 c2]] w (aCX w.heap.size w (.bool (Np.yes (Np.AG l)))):=by
 obtain⟨r,hr⟩:=aaK (Np.yes (Np.AG l));rw[hr];have HR:=jq hr;have HD:=jq hd;obtain⟨A,c,rfl,aR,cP⟩:=ba hd;clear hr hd;have HW:=blW w;go_enter func198,ntmps198;go_wp2_with fail;obtain⟨w1,ah⟩:=aaK (w.alloc (.cells #[.string a,.slice A l.length c,.slice A2 n2 c2] 217));have c2':w1.cell? ⟨w.heap.size,1,none⟩=some (.slice A l.length c):=by rw[<-ah];simp[go_sem]
 have eH:w.heap.size<w1.heap.size:=by rw[<-ah];simp
 have ay:Hid (Below w.heap.size w w1):=jq (by rw[<-ah];exact HW.out _);rw[ah];clear ah;go_loopw [10] (λi wr=>∃ k:Nat,k<=l.length/\i = .int .i64 k/\Hid (Below w1.heap.size w1 wr)/\Hid (∀ j x,j<k->l[j]?=some x->Np.AF l j x)) (λi _=>l.length - (intOf i).toNat)
 case atStart=>exact⟨0,jQ _,rfl,jq (vQ _ _),jq (λj x hj=>by omega)⟩
 case round=>
  obtain⟨k,hk,rfl,HB,HA⟩:=hrel;have aB:=HB.out.size;have aD:=aaZ ay HB.out;by_cases ag:k<l.length
  ·obtain⟨x,aF⟩:∃ x,l[k]?=some x:=⟨_,aQ ag⟩;obtain⟨b,o,c',sn,dv,sv,hA,cX,_,aP,fK,aV,aZ,e0,e1,e2,e3,e4⟩:=dN (HD.out.keep ax aD.out) aF
   cases hA
   have HN:Hid (Np.AF l k x->∀ j x,j<k+1->l[j]?=some x->Np.AF l j x):=jq (λh j y hj hy=>by
    by_cases e:j=k
    ·subst e;rw[aF] at hy;cases hy;exact h
    ·exact HA.out j y (by omega) hy)
   have HF:Hid (¬ Np.AF l k x->r=false):=jq (λh=>by
    rw[<-HR.out];exact Np.eX λq=>h (q k x aF))
   have NR:Hid (∀ (m:Nat) (y:Np.Signed),l[m]?=some y->∃ (sy:ByteArray),sy.data.toList=y.set.name/\wr.cell? ⟨b,o+m * 5,none⟩=some (.string sy)/\wr.cell? ⟨b,o+m * 5+1,none⟩=some (.int .i64 y.set.type)):=jq (λm y hy=>by
    obtain⟨b9,o9,c9,sy,dv9,sv9,hA,_,_,nL,_,_,_,q0,q1,_⟩:=dN (HD.out.keep ax aD.out) hy;simp only[Value.slice.injEq,Option.some.injEq,Addr.mk.injEq,and_true,true_and] at hA;obtain⟨⟨rfl,rfl⟩,-⟩:=hA;exact⟨sy,nL,q0,q1⟩)
   clear aF;obtain⟨Ad,cd,rfl,_,_⟩:=ba aV;obtain⟨As,cs,rfl,_,_⟩:=ba aZ;have hcell:wr.cell? ⟨w.heap.size,1,none⟩=some (.slice (some ⟨b,o,none⟩) l.length c):=aaQ HB.out c2';have gO:w.heap.size<wr.heap.size:=by omega
   have av:b<wr.heap.size:=by omega
   have cu:Hid (∀ o,Below w1.heap.size w1 (wr.alloc o)):=jq (λo=>HB.out.alloc HB.out.size _);have pK:Hid (∀ o,Below w.heap.size w (wr.alloc o)):=jq (λo=>aD.out.alloc (by omega) _);have df:=kNN k;have dg:(k:Int)<(l.length:Int):=by omega
   have bU:=jq aP;obtain⟨ty,bm⟩:=aaK x.set.type;have fj:=jq bm;rw[bm] at e1;clear aP aV aZ bm;by_cases h3:ty=3
   ·obtain⟨w2,ar⟩:=aaK (wr.alloc (.cells #[.string sn,.int .i64 ty,.int .i64 x.set.life,.slice Ad x.set.data.length cd,.slice As x.sigs.length cs] 44));subst h3;have t3:((3:Int) != 3)=false:=by decide
    have Kl:∃ q:Bool,Hid (q=true↔∃ p,0<k/\l[k - 1]?=some p/\p.set.name=x.set.name)/\((k=0/\q=false)\/∃ (m:Nat) (y:Np.Signed) (sy:ByteArray),k=m+1/\wr.cell? ⟨b,o+m * 5,none⟩=some (.string sy)/\(sy.toList == sn.toList)=q):=by
     by_cases ik:k=0
     ·exact⟨false,jq ⟨λh=>(by cases h),λ⟨p,h,_⟩=>(by omega)⟩,.inl ⟨ik,rfl⟩⟩
     ·obtain⟨m,rfl⟩:∃ m,k=m+1:=⟨k - 1,by omega⟩;obtain⟨y,hy⟩:∃ y,l[m]?=some y:=⟨_,aQ (by omega)⟩;obtain⟨sy,nL,q0,q1⟩:=NR.out m y hy;refine⟨_,jq ?_,.inr ⟨m,y,sy,rfl,q0,rfl⟩⟩;rw[dQ,dQ,nL,bU.out,beq_iff_eq];constructor
      ·intro h;exact⟨y,by omega,by simpa using hy,h⟩
      ·rintro⟨p,_,hp,h⟩;rw[show m+1 - 1=m by omega,hy] at hp
       cases hp;exact h
    have aJX:∃ q1 q2:Bool,Hid (∀ n,l[k+1]?=some n->(q1=true↔n.set.name=x.set.name)/\(q2=true↔n.set.type≠8))/\((l.length=k+1/\q1=false)\/∃ (y:Np.Signed) (sy:ByteArray) (ny:Int),k+1<l.length/\wr.cell? ⟨b,o+(k+1) * 5,none⟩=some (.string sy)/\wr.cell? ⟨b,o+(k+1) * 5+1,none⟩=some (.int .i64 ny)/\(sy.toList == sn.toList)=q1/\(ny != 8)=q2):=by
     by_cases kY:l.length=k+1
     ·exact⟨false,false,jq (λn hn=>by have:=(cQ.1 hn).1;omega),.inl ⟨kY,rfl⟩⟩
     ·obtain⟨y,hy⟩:∃ y,l[k+1]?=some y:=⟨_,aQ (by omega)⟩;obtain⟨sy,nL,q0,q1⟩:=NR.out (k+1) y hy;refine⟨_,_,jq (λn hn=>?_),.inr ⟨y,sy,y.set.type,by omega,q0,q1,rfl,rfl⟩⟩;rw[hy] at hn;cases hn;rw[dQ,dQ,nL,bU.out,beq_iff_eq];exact⟨Iff.rfl,by simp⟩
    clear ar w2;obtain⟨qb,nZ,li⟩:=Kl;obtain⟨q1,q2,wB,vg⟩:=aJX;have nf:Hid (∀ o n,Below w1.heap.size w1 ((wr.alloc o).drewN n)):=jq (λo n=>below_drewN (HB.out.alloc HB.out.size _) _);have Hf:Hid (∀ o n,Below w.heap.size w ((wr.alloc o).drewN n)):=jq (λo n=>below_drewN (aD.out.alloc (by omega) _) _);have F3:∀ o' n,(wr.alloc o').drewN n=(wr.alloc o').drewN n:=λ_ _=>rfl;clear F3
    cases qb with
    | true=>
     have HX:Hid (r=false):=jq (HF.out λh=>by
      obtain⟨p,oB,hp,he⟩:=nZ.out.1 rfl;exact (h fj.out).1 p oB hp he)
     rcases li with ⟨_,h⟩ | ⟨m,y,sy,mR,g0,r9⟩
     ·cases h
     ·have ki:decide ((0:Int)<(k:Int))=true:=by simp;omega
      have iP:decide (0<k)=true:=by simp;omega
      have Lo:IntKind.i64.wrap ((k:Int) - 1)=(m:Int):=by rw[IntWalk.i64_in _ (by omega)];omega
      have Gl:(k:Int) - 1=(m:Int):=by omega
      have iO:(0:Int)<=(m:Int):=by omega
      have mP:(m:Int)<(l.length:Int):=by omega
      clear mR;go_wp2_with fail;go_quiet (fail);go_wp2_with fail;go_ret;exact⟨aj HX.out.symm,Hf.out _ _⟩
    | false=>
     have aw:Hid (∀ p,0<k->l[k - 1]?=some p->p.set.name≠x.set.name):=jq (λp h0 hp he=>by
      have:=nZ.out.2 ⟨p,h0,hp,he⟩
      cases this)
     rcases li with ⟨ik,_⟩ | ⟨m,y,sy,mR,g0,r9⟩
     ·have ki:decide ((0:Int)<(k:Int))=false:=by simp;omega
      have iP:decide (0<k)=false:=by simp;omega
      clear ik;go_wp2_with fail;go_quiet (fail);go_wp2_with fail;obtain⟨w4,di⟩:=aaK ((wr.alloc (.cells #[.string sn,.int .i64 3,.int .i64 x.set.life,.slice Ad x.set.data.length cd,.slice As x.sigs.length cs] 44)).drewN nq);rw[di];have kI:Hid (Below w1.heap.size w1 w4):=jq (by rw[<-di];exact nf.out _ _);have Jd:Hid (Below w.heap.size w w4):=jq (by rw[<-di];exact Hf.out _ _);have aE:Below wr.heap.size wr w4:=by rw[<-di];exact below_drewN (blAl) _
      have n4:w4.cell? ⟨wr.heap.size,0,none⟩=some (.string sn):=by rw[<-di];simp[go_sem]
      have uO:w4.cell? ⟨w.heap.size,1,none⟩=some (.slice (some ⟨b,o,none⟩) l.length c):=aaQ aE hcell;rcases vg with ⟨kY,rfl⟩ | ⟨y',sy',ny,kY,k0,k1,gI,eA⟩
      ·have HX:=jq (HN.out (λ_=>⟨aw.out,λn hn=>by have:=(cQ.1 hn).1;omega⟩));have aO:decide ((k:Int)+1<(l.length:Int))=false:=by simp;omega
       have bF:decide (k+1<l.length)=false:=by simp;omega
       clear kY;clear aE di;go_wp2_with fail;go_quiet (fail);go_wp2_with fail;go_roundw
       case rel=>exact⟨k+1,by omega,by go_num,jq (below_drewN kI.out _),jq HX.out⟩
       ·simp[intOf]<;>omega
      ·have k04:w4.cell? ⟨b,o+(k+1) * 5,none⟩=some (.string sy'):=aaQ aE k0;have k14:w4.cell? ⟨b,o+(k+1) * 5+1,none⟩=some (.int .i64 ny):=aaQ aE k1;obtain⟨j,hj⟩:=aaK (k+1);have ha:IntKind.i64.wrap ((k:Int)+1)=(j:Int):=by rw[IntWalk.i64_in _ (by omega)];omega
       have FB:(k:Int)+1=(j:Int):=by omega
       have aO:decide ((j:Int)<(l.length:Int))=true:=by simp;omega
       have bF:decide (j<l.length)=true:=by simp;omega
       have rS:(0:Int)<=(j:Int):=by omega
       have uX:(j:Int)<(l.length:Int):=by omega
       rw[hj] at k04 k14 wB;have HJ:=jq hj;have bE:b<w4.heap.size:=by have:=aE.size;omega
       clear aE di k0 k1 hj kY;obtain⟨n,hn⟩:∃ n,l[j]?=some n:=⟨_,aQ (by omega)⟩;have oU:=jq (wB.out n hn);have nX:=jq hn;clear hn
       cases q1 with
       | false=>
        have HX:=jq (HN.out (λ_=>⟨aw.out,λn' hn' he=>by
         rw[HJ.out,nX.out] at hn';cases hn'
         have:=oU.out.1.2 he
         cases this⟩))
        go_wp2_with fail;go_quiet (fail);go_wp2_with fail;go_roundw
        case rel=>exact⟨k+1,by omega,by go_num,jq (below_drewN kI.out _),jq HX.out⟩
        ·simp[intOf]<;>omega
       | true=>
        cases q2 with
        | false=>
         have HX:=jq (HN.out (λ_=>⟨aw.out,λn' hn' _=>by
          rw[HJ.out,nX.out] at hn';cases hn';refine Decidable.not_not.1 λh8=>?_
          have:=oU.out.2.2 h8
          cases this⟩))
         go_wp2_with fail;go_quiet (fail);go_wp2_with fail;go_roundw
         case rel=>exact⟨k+1,by omega,by go_num,jq (below_drewN kI.out _),jq HX.out⟩
         ·simp[intOf]<;>omega
        | true=>
         have HX:Hid (r=false):=jq (HF.out λh=>(oU.out.2.1 rfl) ((h fj.out).2 n (by rw[HJ.out];exact nX.out) (oU.out.1.1 rfl)));go_wp2_with fail;go_quiet (fail);go_wp2_with fail;go_ret;exact⟨aj HX.out.symm,below_drewN Jd.out _⟩
     ·have ki:decide ((0:Int)<(k:Int))=true:=by simp;omega
      have iP:decide (0<k)=true:=by simp;omega
      have Lo:IntKind.i64.wrap ((k:Int) - 1)=(m:Int):=by rw[IntWalk.i64_in _ (by omega)];omega
      have Gl:(k:Int) - 1=(m:Int):=by omega
      have iO:(0:Int)<=(m:Int):=by omega
      have mP:(m:Int)<(l.length:Int):=by omega
      clear mR;go_wp2_with fail;go_quiet (fail);go_wp2_with fail;obtain⟨w4,di⟩:=aaK ((wr.alloc (.cells #[.string sn,.int .i64 3,.int .i64 x.set.life,.slice Ad x.set.data.length cd,.slice As x.sigs.length cs] 44)).drewN nq);rw[di];have kI:Hid (Below w1.heap.size w1 w4):=jq (by rw[<-di];exact nf.out _ _);have Jd:Hid (Below w.heap.size w w4):=jq (by rw[<-di];exact Hf.out _ _);have aE:Below wr.heap.size wr w4:=by rw[<-di];exact below_drewN (blAl) _
      have n4:w4.cell? ⟨wr.heap.size,0,none⟩=some (.string sn):=by rw[<-di];simp[go_sem]
      have uO:w4.cell? ⟨w.heap.size,1,none⟩=some (.slice (some ⟨b,o,none⟩) l.length c):=aaQ aE hcell;rcases vg with ⟨kY,rfl⟩ | ⟨y',sy',ny,kY,k0,k1,gI,eA⟩
      ·have HX:=jq (HN.out (λ_=>⟨aw.out,λn hn=>by have:=(cQ.1 hn).1;omega⟩));have aO:decide ((k:Int)+1<(l.length:Int))=false:=by simp;omega
       have bF:decide (k+1<l.length)=false:=by simp;omega
       clear kY;clear aE di;go_wp2_with fail;go_quiet (fail);go_wp2_with fail;go_roundw
       case rel=>exact⟨k+1,by omega,by go_num,jq (below_drewN kI.out _),jq HX.out⟩
       ·simp[intOf]<;>omega
      ·have k04:w4.cell? ⟨b,o+(k+1) * 5,none⟩=some (.string sy'):=aaQ aE k0;have k14:w4.cell? ⟨b,o+(k+1) * 5+1,none⟩=some (.int .i64 ny):=aaQ aE k1;obtain⟨j,hj⟩:=aaK (k+1);have ha:IntKind.i64.wrap ((k:Int)+1)=(j:Int):=by rw[IntWalk.i64_in _ (by omega)];omega
       have FB:(k:Int)+1=(j:Int):=by omega
       have aO:decide ((j:Int)<(l.length:Int))=true:=by simp;omega
       have bF:decide (j<l.length)=true:=by simp;omega
       have rS:(0:Int)<=(j:Int):=by omega
       have uX:(j:Int)<(l.length:Int):=by omega
       rw[hj] at k04 k14 wB;have HJ:=jq hj;have bE:b<w4.heap.size:=by have:=aE.size;omega
       clear aE di k0 k1 hj kY;obtain⟨n,hn⟩:∃ n,l[j]?=some n:=⟨_,aQ (by omega)⟩;have oU:=jq (wB.out n hn);have nX:=jq hn;clear hn
       cases q1 with
       | false=>
        have HX:=jq (HN.out (λ_=>⟨aw.out,λn' hn' he=>by
         rw[HJ.out,nX.out] at hn';cases hn'
         have:=oU.out.1.2 he
         cases this⟩))
        go_wp2_with fail;go_quiet (fail);go_wp2_with fail;go_roundw
        case rel=>exact⟨k+1,by omega,by go_num,jq (below_drewN kI.out _),jq HX.out⟩
        ·simp[intOf]<;>omega
       | true=>
        cases q2 with
        | false=>
         have HX:=jq (HN.out (λ_=>⟨aw.out,λn' hn' _=>by
          rw[HJ.out,nX.out] at hn';cases hn';refine Decidable.not_not.1 λh8=>?_
          have:=oU.out.2.2 h8
          cases this⟩))
         go_wp2_with fail;go_quiet (fail);go_wp2_with fail;go_roundw
         case rel=>exact⟨k+1,by omega,by go_num,jq (below_drewN kI.out _),jq HX.out⟩
         ·simp[intOf]<;>omega
        | true=>
         have HX:Hid (r=false):=jq (HF.out λh=>(oU.out.2.1 rfl) ((h fj.out).2 n (by rw[HJ.out];exact nX.out) (oU.out.1.1 rfl)));go_wp2_with fail;go_quiet (fail);go_wp2_with fail;go_ret;exact⟨aj HX.out.symm,below_drewN Jd.out _⟩
   ·have HX:=jq (HN.out (λh=>absurd (fj.out.symm.trans h) h3));have h3':(ty != 3)=true:=by simpa using h3
    clear h3;go_wp2_with fail;go_roundw
    case rel=>exact⟨k+1,by omega,by go_num,jq (cu.out _),jq HX.out⟩
    ·simp[intOf]<;>omega
  ·go_wp2_with fail;go_ret;refine⟨aj ?_,aD.out⟩;rw[<-HR.out];exact (Np.gY λi x hx=>HA.out i x (by have:=(cQ.1 hx).1;omega) hx).symm
end
namespace Np
def lw(c:Copy):Int×List UInt8:=(c.host,c.zone.apex)
def gD(l:List Copy)(p:Int×List UInt8):List Span:=(l.filter λc=>decide (lw c=p)).map pD
theorem QY(l:List Copy)(c:Copy)(p:Int×List UInt8):gD (l ++ [c]) p=if lw c=p then gD l p ++ [pD c] else gD l p:=by
 unfold gD;rw[List.filter_append];by_cases h:lw c=p
 ·simp[h]
 ·simp[h]
theorem QX{l:List Copy}{p:Int×List UInt8}(h:∀ c∈l,lw c≠p):gD l p = []:=by
 unfold gD;rw[List.filter_eq_nil_iff.2 (λc hc=>by simpa using h c hc)];rfl
structure GrpI(kvs:List ((Int×List UInt8)×List Span))(l:List Copy):Prop where
 nodup:(kvs.map (·.1)).Nodup
 each:∀ x∈kvs,x.2=gD l x.1
 all:∀ c∈l,lw c∈kvs.map (·.1)
theorem GrpI.nil:GrpI [] []:=⟨by simp,λx hx=>(by cases hx),λc hc=>(by cases hc)⟩
theorem GrpI.new{kvs:List ((Int×List UInt8)×List Span)}{l:List Copy}(h:GrpI kvs l){c:Copy}(hn:lw c∉kvs.map (·.1)):GrpI (kvs ++ [(lw c,[pD c])]) (l ++ [c]):=by
 have h0:gD l (lw c) = []:=QX λd hd e=>hn (by rw[<-e];exact h.all d hd);refine⟨?_,λx hx=>?_,λd hd=>?_⟩
 ·rw[List.map_append,List.nodup_append];refine⟨h.nodup,by simp,λa ha b hb e=>?_⟩;simp at hb;subst hb;subst e;exact hn ha
 ·rcases List.mem_append.1 hx with hx | hx
  ·rw[QY,Qc]
   ·exact h.each x hx
   ·intro e;exact hn (by rw[e];exact List.mem_map.2 ⟨x,hx,rfl⟩)
  ·rw[List.mem_singleton] at hx;subst hx;rw[QY,QbQ rfl,h0];rfl
 ·rw[List.map_append];rcases List.mem_append.1 hd with hd | hd
  ·exact List.mem_append_left _ (h.all d hd)
  ·rw[List.mem_singleton] at hd;subst hd;simp
def BU(a b:Span):Prop:=a.frm<b.til/\b.frm<a.til
theorem BU.symm{a b:Span}(h:BU a b):BU b a:=⟨h.2,h.1⟩
theorem aBX(l:List Copy):(l.Pairwise λc d=>¬ G4 c d)↔∀ p,(gD l p).Pairwise λa b=>¬ BU a b:=by
 induction l with
 | nil=>simp[gD]
 | cons c l ih=>
  rw[List.pairwise_cons,ih];constructor
  ·rintro⟨h1,h2⟩ p;by_cases hp:lw c=p
   ·have e:gD (c::l) p=pD c::gD l p:=by unfold gD;simp[hp]
    rw[e,List.pairwise_cons];refine⟨λs hs=>?_,h2 p⟩;obtain⟨d,hd,rfl⟩:=List.mem_map.1 hs;obtain⟨mK,iN⟩:=List.mem_filter.1 hd;have hk:lw d=lw c:=by rw[hp];simpa using iN
    intro ho;unfold lw at hk;simp only[Prod.mk.injEq] at hk;exact h1 d mK ⟨hk.1.symm,hk.2.symm,ho.1,ho.2⟩
   ·have e:gD (c::l) p=gD l p:=by unfold gD;simp[hp]
    rw[e];exact h2 p
  ·intro h;refine⟨λd hd ke=>?_,λp=>?_⟩
   ·have h1:=h (lw c);have e:gD (c::l) (lw c)=pD c::gD l (lw c):=by unfold gD;simp
    rw[e,List.pairwise_cons] at h1;refine h1.1 (pD d) (List.mem_map.2 ⟨d,List.mem_filter.2 ⟨hd,?_⟩,rfl⟩) ⟨ke.2.2.1,ke.2.2.2⟩;unfold lw;simp[ke.1,ke.2.1]
   ·have h1:=h p;by_cases hp:lw c=p
    ·have e:gD (c::l) p=pD c::gD l p:=by unfold gD;simp[hp]
     rw[e,List.pairwise_cons] at h1;exact h1.2
    ·have e:gD (c::l) p=gD l p:=by unfold gD;simp[hp]
     rwa [e] at h1
theorem GrpI.ok{kvs:List ((Int×List UInt8)×List Span)}{l:List Copy}(h:GrpI kvs l):(l.Pairwise λc d=>¬ G4 c d)↔∀ x∈kvs,x.2.Pairwise λa b=>¬ BU a b:=by
 rw[aBX];constructor
 ·intro h1 x hx;rw[h.each x hx];exact h1 _
 ·intro h1 p;by_cases hp:p∈kvs.map (·.1)
  ·obtain⟨x,hx,rfl⟩:=List.mem_map.1 hp;rw[<-h.each x hx];exact h1 x hx
  ·rw[QX λc hc e=>hp (by rw[<-e];exact h.all c hc)];exact List.Pairwise.nil
end Np
end Go.Proofs.YtadhigmjilijcaaGreatDoor
