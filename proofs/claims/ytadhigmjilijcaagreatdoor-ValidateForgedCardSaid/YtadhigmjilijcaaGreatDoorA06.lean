/- No condition. -/
import Derived.Test.YtadhigmjilijcaaGreatDoorA02
import Derived.Test.YtadhigmjilijcaaGreatDoorA03
import Derived.Test.YtadhigmjilijcaaGreatDoorA04
import Derived.Test.YtadhigmjilijcaaGreatDoorA05
set_option linter.all false
set_option maxRecDepth 100000
set_option maxHeartbeats 8000000
namespace Go.Proofs.YtadhigmjilijcaaGreatDoor
open Go.Proofs.Tryz
namespace Np
structure B6 where
 name:List UInt8
 addr:Int
 owner:Int
deriving DecidableEq
structure Copy where
 host:Int
 frm:Int
 til:Int
 zone:Zone
deriving DecidableEq
structure Placed where
 host:Int
 zone:Zone
deriving DecidableEq
structure Held where
 zone:List UInt8
 signed:Signed
 fresh:List Span
 spans:List Span
deriving DecidableEq
structure Fe where
 hosts:List B6
 copies:List Copy
 anchor:DSet
 hints:List Int
 drift:Int
 stop:Int
structure WorldP where
 hosts:List B6
 zones:List Placed
 anchor:DSet
 hints:List Int
noncomputable def yes(P:Prop):Bool:=@decide P (Classical.propDecidable P)
theorem QX{P:Prop}(h:P):yes P=true:=by unfold yes;exact @uQ _ (Classical.propDecidable P) h
theorem QW{P:Prop}(h:¬ P):yes P=false:=by unfold yes;exact @tQ _ (Classical.propDecidable P) h
theorem aQZ{P:Prop} : yes P=true↔P:=by unfold yes;exact @decide_eq_true_iff _ (Classical.propDecidable P)
structure Vy(h:B6):Prop where
 name:ao h.name=true
 wild:gu h.name=false
 addr:1<=h.addr/\h.addr<=1000000
 owner:0<=h.owner/\h.owner<=31
structure VHosts(l:List B6):Prop where
 few:l.length<=64
 each:∀ h∈l,Vy h
 addrs:(l.map (·.addr)).Nodup
structure VRoot(a:DSet)(hints:List Int):Prop where
 set:bo a=true
 type:a.type=6
 name:a.name = [46]
 few:1<=hints.length/\hints.length<=8
 each:∀ n∈hints,1<=n/\n<=1000000
structure CopyOk(h:Fe)(c:Copy):Prop where
 host:0<=c.host/\c.host<h.hosts.length
 times:0<=c.frm/\c.frm<c.til/\c.til<=h.stop
 zone:VZone c.zone
def D7(c d:Copy):Prop:=c.host=d.host/\c.zone.apex=d.zone.apex/\c.frm<d.til/\d.frm<c.til
structure VHist(h:Fe):Prop where
 stop:1<=h.stop/\h.stop<=10000000
 drift:0<=h.drift/\h.drift<=1000
 hosts:VHosts h.hosts
 root:VRoot h.anchor h.hints
 each:∀ c∈h.copies,CopyOk h c
 apart:h.copies.Pairwise λc d=>¬ D7 c d
structure VWorld(w:WorldP):Prop where
 hosts:VHosts w.hosts
 root:VRoot w.anchor w.hints
 each:∀ p∈w.zones,(0<=p.host/\p.host<w.hosts.length)/\VZone p.zone
 apart:w.zones.Pairwise λp q=>¬ (p.host=q.host/\p.zone.apex=q.zone.apex)
def vj(l:List Span):List Span:=(l.mergeSort λa b=>decide (a.frm<=b.frm)).foldl nP []
theorem aaK{l m:List Span}(h:l.Perm m)(t:Int):inS l t↔inS m t:=
 ⟨λ⟨s,hs,k⟩=>⟨s,h.mem_iff.1 hs,k⟩,λ⟨s,hs,k⟩=>⟨s,h.mem_iff.2 hs,k⟩⟩
theorem XI{l:List Span}(hf:∀ s∈l,s.frm<s.til)(hs:l.Pairwise λa b=>a.frm<=b.frm):ApartS (l.foldl nP [])/\∀ t,inS (l.foldl nP []) t↔inS l t:=by
 obtain⟨h1,h2⟩:=QD l [] ApartS.nil hf hs (λp hp=>by cases hp);exact⟨h1,λt=>(h2 t).trans ⟨λh=>h.elim (λh=>absurd h (rp t)) id,.inr⟩⟩
theorem Qs(l:List Span):(l.mergeSort λa b=>decide (a.frm<=b.frm)).Perm l:=List.mergeSort_perm _ _
theorem aCJ(l:List Span):(l.mergeSort λa b=>decide (a.frm<=b.frm)).Pairwise λa b=>a.frm<=b.frm:=by
 have:=List.pairwise_mergeSort (le:=λa b:Span=>decide (a.frm<=b.frm)) (λx y z h1 h2=>by simp at *;omega) (λx y=>by simp;omega) l
 exact this.imp λh=>by simpa using h
theorem PO{l:List Span}(hf:∀ s∈l,s.frm<s.til):ApartS (vj l)/\∀ t,inS (vj l) t↔inS l t:=by
 obtain⟨h1,h2⟩:=XI (λs hs=>hf s ((Qs l).mem_iff.1 hs)) (aCJ l);exact⟨h1,λt=>(h2 t).trans (aaK (Qs l) t)⟩
theorem amY{l m:List Span}(hf:∀ s∈l,s.frm<s.til)(hm:ApartS m)(ht:∀ t,inS m t↔inS l t):m=vj l:=by
 obtain⟨h1,h2⟩:=PO hf;exact LV _ _ hm h1 λt=>(ht t).trans (h2 t).symm
theorem anQ{l m:List Span}(hl:∀ s∈l,s.frm<s.til)(hm:∀ s∈m,s.frm<s.til)(h:∀ t,inS l t↔inS m t):vj l=vj m:=by
 obtain⟨h1,h2⟩:=PO hl;exact amY hm h1 λt=>(h2 t).trans (h t)
def nO(c:Copy):Span:=⟨c.frm,c.til⟩
def Mh(l:List Copy)(zone:List UInt8):List Copy:=l.filter λc=>c.zone.apex == zone
def PS(c:Copy):List (Span×Signed):=c.zone.sets.map λs=>(nO c,s)
def xD(l:List Copy)(zone:List UInt8):List (Span×Signed):=(Mh l zone).flatMap PS
def xL(ps:List (Span×Signed))(s:Signed):List Span:=(ps.filter λp=>decide (p.2=s)).map (·.1)
theorem H9{l:List Copy}{zone:List UInt8}{p:Span×Signed} : p∈xD l zone↔∃ c∈l,c.zone.apex=zone/\p.2∈c.zone.sets/\p.1=nO c:=by
 unfold xD Mh PS;simp only[List.mem_flatMap,List.mem_filter,List.mem_map,beq_iff_eq];constructor
 ·rintro⟨c,⟨h1,h2⟩,s,hs,rfl⟩;exact⟨c,h1,h2,hs,rfl⟩
 ·rintro⟨c,h1,h2,h3,h4⟩;exact⟨c,⟨h1,h2⟩,p.2,h3,by rw[<-h4]⟩
theorem Ia{ps:List (Span×Signed)}{s:Signed}{x:Span} : x∈xL ps s↔(x,s)∈ps:=by
 unfold xL;simp only[List.mem_map,List.mem_filter,Qa];constructor
 ·rintro⟨p,⟨h1,rfl⟩,rfl⟩;exact h1
 ·intro h;exact⟨(x,s),⟨h,rfl⟩,rfl⟩
def tw(l:List Copy):Prop:=∀ c∈l,c.frm<c.til
theorem VHist.full{h:Fe}(v:VHist h):tw h.copies:=λc hc=>(v.each c hc).times.2.1
theorem QB{l:List Copy}(hl:tw l){zone:List UInt8}{s:Signed} : ∀ x∈xL (xD l zone) s,x.frm<x.til:=λx hx=>by
 obtain⟨c,hc,_,_,h4⟩:=H9.1 (Ia.1 hx);have h4:x=nO c:=h4;rw[h4];exact hl c hc
theorem Pk{l:List Copy}{zone:List UInt8}{s:Signed}{t:Int} : inS (xL (xD l zone) s) t↔∃ c∈l,c.zone.apex=zone/\s∈c.zone.sets/\c.frm<=t/\t<c.til:=by
 constructor
 ·rintro⟨x,hx,h1,h2⟩;obtain⟨c,hc,h3,h4,h5⟩:=H9.1 (Ia.1 hx);have h5:x=nO c:=h5;subst h5;exact⟨c,hc,h3,h4,h1,h2⟩
 ·rintro⟨c,hc,h3,h4,h1,h2⟩;exact⟨nO c,Ia.2 (H9.2 ⟨c,hc,h3,h4,rfl⟩),h1,h2⟩
end Np
section
open Go.RowKit
theorem Iw{w:World}{B:Nat}{v:Value}{xs:List Np.Sig}(h:SlR dw 6 w B v xs){k:Nat}{x:Np.Sig}(hx:xs[k]?=some x):∃ (b o c:Nat) (s:ByteArray),v = .slice (some ⟨b,o,none⟩) xs.length c/\b<B/\s.data.toList=x.zone/\s.size<=140737488355328/\
 w.cell? ⟨b,o+k * 6,none⟩=some (.string s)/\w.cell? ⟨b,o+k * 6+1,none⟩=some (.int .i64 x.key)/\w.cell? ⟨b,o+k * 6+2,none⟩=some (.int .i64 x.alg)/\w.cell? ⟨b,o+k * 6+3,none⟩=some (.int .i64 x.frm)/\w.cell? ⟨b,o+k * 6+4,none⟩=some (.int .i64 x.til)/\w.cell? ⟨b,o+k * 6+5,none⟩=some (.int .u64 x.sum):=by
 obtain⟨A,c,rfl,hc,_,he⟩:=h;obtain⟨b,o,e,rfl,hb,_,hce,s,h1,h2,rfl⟩:=he k x hx;exact⟨b,o,c,s,rfl,hb,h1,h2,by have:=hce 0 _ rfl;simpa using this,hce 1 _ rfl,hce 2 _ rfl,hce 3 _ rfl,hce 4 _ rfl,hce 5 _ rfl⟩

def Np.NK(l:List Np.Signed)(n:List UInt8)(t:Int):Prop:=∃ x∈l,x.set.name=n/\x.set.type=t
def RTx(_:World)(_:Nat)(e:List Value)(x:List UInt8):Prop:=∃ s:ByteArray,s.data.toList=x/\s.size<=140737488355328/\e = [.string s]
theorem rB:eh RTx:=λ_ _ _ _ _ h _=>h
theorem AG:eI RTx:=λ_ _ _ _ _ h _=>h
theorem alZ(n j:Nat)(hj:j<n):(madeCells #[Value.string ⟨#[]⟩] n)[j]?=some (.string ⟨#[]⟩):=by
 unfold madeCells;simp[hj,Nat.mod_one]
theorem Tryz.infoStrZ:(prog.info? 9).map (λi=>(i.zero,i.size,i.bytes))=some (some (.string ⟨#[]⟩),1,16):=by kernel_rfl
theorem alK(n:Nat)(hn:n<=20000)(w:World):(Instr.makeSlice 102 (.int .i64 n) (.int .i64 n)).run prog w = .ok (.slice (some ⟨w.heap.size,0,none⟩) n n) (w.alloc (.cells (madeCells #[Value.string ⟨#[]⟩] n) 9)):=by
 obtain⟨i,hi,hp⟩:=Option.map_eq_some_iff.1 Tryz.infoStrZ;simp only[Prod.mk.injEq] at hp;obtain⟨hz,hs,hb⟩:=hp
 have:=run_make (P:=prog) w 102 9 i (.string ⟨#[]⟩) underlying102 hi hz .i64 .i64 n n (by omega) (Int.le_refl _) (by rw[hb];omega) (by omega)
 rw[hs] at this;simpa [Value.cells] using this
def ia(w:World)(B:Nat)(xs:List (List UInt8)):Prop:=∀ j x,xs[j]?=some x->∃ s:ByteArray,s.data.toList=x/\s.size<=140737488355328/\w.cell? ⟨B,j,none⟩=some (.string s)/\w.frozen? ⟨B,j,none⟩=false
theorem ia.keep{w w':World}{B n:Nat}{xs:List (List UInt8)}(h:ia w B xs)(hb:Below n w w')(hB:B<n):ia w' B xs:=λj x hx=>by
 obtain⟨s,h1,h2,h3,h4⟩:=h j x hx;exact⟨s,h1,h2,(hb.cell (p:=⟨B,j,none⟩) hB).trans h3,(hb.frozen (p:=⟨B,j,none⟩) hB).trans h4⟩
theorem ia.store{w:World}{B:Nat}{xs:List (List UInt8)}(h:ia w B xs){k:Nat}(hk:k<xs.length)(s:ByteArray)(hs:s.size<=140737488355328):ia (w.setCell ⟨B,k,none⟩ (.string s)) B (xs.set k s.data.toList):=λj x hx=>by
 rw[List.getElem?_set] at hx;by_cases sX:k=j
 ·subst sX;rw[QbQ rfl,QbQ hk] at hx
  cases hx
  obtain⟨s0,_,_,h3,h4⟩:=h k _ (aQ hk);exact⟨s,rfl,hs,by simp[World.cell?_setCell_same,h3],(World.frozen?_setCell _ _ _ _).trans h4⟩
 ·rw[Qc sX] at hx;obtain⟨s0,h1,h2,h3,h4⟩:=h j x hx;exact⟨s0,h1,h2,by rw[xQ _ _ _ _ (by simp<;>omega)];exact h3,(World.frozen?_setCell _ _ _ _).trans h4⟩
theorem ia.other{w:World}{B:Nat}{xs:List (List UInt8)}(h:ia w B xs){p:Addr}(hp:p.block≠B)(u:Value):ia (w.setCell p u) B xs:=λj x hx=>by
 obtain⟨s,h1,h2,h3,h4⟩:=h j x hx;exact⟨s,h1,h2,(xQ _ _ _ _ (λe=>hp (by rw[e]))).trans h3,(World.frozen?_setCell _ _ _ _).trans h4⟩
theorem ia.slr{w:World}{B:Nat}{xs:List (List UInt8)}(h:ia w B xs)(hB:B<w.heap.size)(hl:xs.length<=140737488355328):SlR RTx 1 w w.heap.size (.slice (some ⟨B,0,none⟩) xs.length xs.length) xs:=
 ⟨_,_,rfl,bQ _,hl,λj x hx=>by
  obtain⟨s,h1,h2,h3,_⟩:=h j x hx;refine⟨B,0,[.string s],rfl,hB,rfl,λi v hv=>?_,s,h1,h2,rfl⟩
  match i,hv with
  | 0,hv=>cases hv;simpa using h3⟩
structure LayK(w:World)(M Bl Bs:Nat)(a:ByteArray)(v sl:Value)(kv:List (List UInt8×Value))(wr:World)(bs:List (List UInt8)):Prop where
 below:Below w.heap.size w wr
 b0:wr.cell? ⟨w.heap.size,0,none⟩=some (.string a)
 b1:wr.cell? ⟨w.heap.size,1,none⟩=some v
 r0:wr.cell? ⟨w.heap.size+1,0,none⟩=some (.string ⟨#[]⟩)
 r1:wr.cell? ⟨w.heap.size+1,1,none⟩=some (.slice none 0 0)
 r2:wr.cell? ⟨w.heap.size+1,2,none⟩=some (.slice none 0 0)
 l0:wr.cell? ⟨Bl,0,none⟩=some (.string a)
 l1:wr.cell? ⟨Bl,1,none⟩=some v
 l2:wr.cell? ⟨Bl,2,none⟩=some sl
 map:jR M kv wr
 row:ia wr Bs bs
 blt:Bl<wr.heap.size
 slt:Bs<wr.heap.size
 rf:∀ j,wr.frozen? ⟨w.heap.size+1,j,none⟩=false
structure LayB(n M Bl Bs:Nat):Prop where
 map:n+2=M
 lay:M<Bl
 row:M<Bs
 ne:Bl≠Bs
theorem LayK.keep{w:World}{M Bl Bs:Nat}{a:ByteArray}{v sl:Value}{kv:List (List UInt8×Value)}{wr wx:World}{bs:List (List UInt8)}(h:LayK w M Bl Bs a v sl kv wr bs)(hB:LayB w.heap.size M Bl Bs)(hb:Below wr.heap.size wr wx):LayK w M Bl Bs a v sl kv wx bs:=by
 have h1:=hB.map;have h2:=hB.lay;have h3:=h.blt;have h4:=h.slt;have h5:=h.map.lt;have au:=hb.size;exact⟨h.below.trans (hb.mono h.below.size),(hb.cell (by simp<;>omega)).trans h.b0,(hb.cell (by simp<;>omega)).trans h.b1,(hb.cell (by simp<;>omega)).trans h.r0,(hb.cell (by simp<;>omega)).trans h.r1,(hb.cell (by simp<;>omega)).trans h.r2,
  (hb.cell (by simp<;>omega)).trans h.l0,(hb.cell (by simp<;>omega)).trans h.l1,(hb.cell (by simp<;>omega)).trans h.l2,h.map.keep hb h5,h.row.keep hb h4,by omega,by omega,λj=>(hb.frozen (by simp<;>omega)).trans (h.rf j)⟩
theorem jR.setCell{r:Nat}{kvs:List (List UInt8×Value)}{w:World}(h:jR r kvs w){p:Addr}(hp:p.block≠r)(u:Value):jR r kvs (w.setCell p u):=by
 obtain⟨es,c,h1,h2⟩:=h;exact⟨es,c,(wQ _ _ _ _ (λe=>hp e.symm)).trans h1,h2⟩
theorem LayK.store{w:World}{M Bl Bs:Nat}{a:ByteArray}{v sl:Value}{kv:List (List UInt8×Value)}{wr:World}{bs:List (List UInt8)}(h:LayK w M Bl Bs a v sl kv wr bs)(hB:LayB w.heap.size M Bl Bs){k:Nat}(hk:k<bs.length)(s:ByteArray)(hs:s.size<=140737488355328):LayK w M Bl Bs a v sl kv (wr.setCell ⟨Bs,k,none⟩ (.string s)) (bs.set k s.data.toList):=by
 have h1:=hB.map;have h2:=hB.lay;have h3:=hB.row;have h4:=hB.ne;exact⟨h.below.setCell (by simp<;>omega) _,(xQ _ _ _ _ (by simp<;>omega)).trans h.b0,(xQ _ _ _ _ (by simp<;>omega)).trans h.b1,(xQ _ _ _ _ (by simp<;>omega)).trans h.r0,(xQ _ _ _ _ (by simp<;>omega)).trans h.r1,(xQ _ _ _ _ (by simp<;>omega)).trans h.r2,
  (xQ _ _ _ _ (by simp<;>omega)).trans h.l0,(xQ _ _ _ _ (by simp<;>omega)).trans h.l1,(xQ _ _ _ _ (by simp<;>omega)).trans h.l2,h.map.setCell (by simp<;>omega) _,h.row.store hk s hs,by simpa using h.blt,by simpa using h.slt,λj=>(World.frozen?_setCell _ _ _ _).trans (h.rf j)⟩
end
namespace Np
theorem NL{l:List Copy}(hl:tw l){P:Int->Zone->Prop} : (∃ c∈l,P c.host c.zone)↔∃ t,∃ c∈l,P c.host c.zone/\c.frm<=t/\t<c.til:=
 ⟨λ⟨c,h1,h2⟩=>⟨c.frm,c,h1,h2,Int.le_refl _,hl c h1⟩,λ⟨_,c,h1,h2,_⟩=>⟨c,h1,h2⟩⟩
def B8(l m:List Copy):Prop:=∀ (P:Int->Zone->Prop) (t:Int),(∃ d∈l,P d.host d.zone/\d.frm<=t/\t<d.til)↔∃ c∈m,P c.host c.zone/\c.frm<=t/\t<c.til
theorem B8.zone{l m:List Copy}(h:B8 l m)(hl:tw l)(hm:tw m){P:Int->Zone->Prop} : (∃ c∈l,P c.host c.zone)↔∃ c∈m,P c.host c.zone:=by
 rw[NL hl,NL hm];exact⟨λ⟨t,ht⟩=>⟨t,(h P t).1 ht⟩,λ⟨t,ht⟩=>⟨t,(h P t).2 ht⟩⟩
theorem B8.fresh{l m:List Copy}(h:B8 l m)(hl:tw l)(hm:tw m)(zone:List UInt8)(s:Signed):vj (xL (xD l zone) s)=vj (xL (xD m zone) s):=by
 refine anQ (QB hl) (QB hm) λt=>Pk.trans (Iff.trans ?_ Pk.symm)
 have:=h (λ_ z=>z.apex=zone/\s∈z.sets) t
 simpa only[and_assoc] using this


structure Ent22 where
 signed:Signed
 zone:List UInt8
 til:Int
deriving DecidableEq
def QOk(n:List UInt8)(ty:Int):Prop:=ao n=true/\1<=ty/\ty<=8
def abK(a b:Ent22):Prop:=a.signed.set.name=b.signed.set.name/\a.signed.set.type=b.signed.set.type/\a.zone=b.zone
structure EntOk(e:Ent22):Prop where
 name:ao e.signed.set.name=true
 zone:ao e.zone=true
 wild:gu e.zone=false
 under:fk e.signed.set.name e.zone=true
 til:1<=e.til/\e.til<=20100001
 kind:(e.signed.set.data = []/\(1<=e.signed.set.type/\e.signed.set.type<=8)/\(0<=e.signed.set.life/\e.signed.set.life<=100000)/\e.signed.sigs = [])\/(e.signed.set.data≠[]/\bo e.signed.set=true/\Ff e.zone e.signed.sigs)
structure VCache(l:List Ent22):Prop where
 few:l.length<=400
 each:∀ e∈l,EntOk e
 apart:l.Pairwise λa b=>¬ abK a b
theorem VCache.sub{l m:List Ent22}(h:VCache l)(hm:m.Sublist l):VCache m:=
 ⟨yQ hm.length_le h.few,λe he=>h.each e (hm.subset he),h.apart.sublist hm⟩
end Np
section
open Go.RowKit Go.Sort Go.Shelf
section
variable {α:Type} [Inhabited α]
end
section
variable {ops:Array Oper} {rest:List Oper} {o:Oper} {a:Act} {Q:Exit->Act->World->Prop}
end
end
end Go.Proofs.YtadhigmjilijcaaGreatDoor
