/- Parts of the proof. No condition. -/
import Derived.Laws.OwnMore
import Derived.Test.YtfnopgdcaanaiaaGreatDoorH28
import Derived.Test.YtfnopgdcaanaiaaGreatDoorH29
set_option linter.all false
set_option maxRecDepth 100000
set_option maxHeartbeats 8000000
namespace Go.Proofs.YtfnopgdcaanaiaaGreatDoor
section
open Go.RowKit


def ii(W:World)(B:Nat)(e:List Value)(x:Np.Held):Prop:=∃ (z s:ByteArray) (dv sv fv pv:Value),e = [.string z,.string s,.int .i64 x.signed.set.type,.int .i64 x.signed.set.life,dv,sv,fv,pv]/\z.data.toList=x.zone/\z.size<=140737488355328/\s.data.toList=x.signed.set.name/\s.size<=140737488355328/\
 SlR bn 3 W B dv x.signed.set.data/\SlR dj 6 W B sv x.signed.sigs/\SlR dU 2 W B fv x.fresh/\SlR dU 2 W B pv x.spans
theorem zw:cY ii:=λ_ _ _ _ _ ⟨z,s,dv,sv,fv,pv,h0,h1,h2,h3,h4,h5,h6,h7,h8⟩ hb=>⟨z,s,dv,sv,fv,pv,h0,h1,h2,h3,h4,h5.keep de hb,h6.keep ep hb,h7.keep iw hb,h8.keep iw hb⟩
theorem vH:dw ii:=λ_ _ _ _ _ ⟨z,s,dv,sv,fv,pv,h0,h1,h2,h3,h4,h5,h6,h7,h8⟩ hb=>⟨z,s,dv,sv,fv,pv,h0,h1,h2,h3,h4,h5.more eN hb,h6.more gp hb,h7.more qh hb,h8.more qh hb⟩
theorem KB{w:World}{B n c:Nat}{A:Option Addr}{xs:List Np.Held}(h:SlR ii 8 w B (.slice A n c) xs){k:Nat}{x:Np.Held}(hx:xs[k]?=some x):∃ (b o:Nat) (z s:ByteArray) (dv sv fv pv:Value),A=some ⟨b,o,none⟩/\b<B/\z.data.toList=x.zone/\s.data.toList=x.signed.set.name/\
 SlR bn 3 w B dv x.signed.set.data/\SlR dj 6 w B sv x.signed.sigs/\SlR dU 2 w B fv x.fresh/\SlR dU 2 w B pv x.spans/\
 w.cell? ⟨b,o+k * 8,none⟩=some (.string z)/\w.cell? ⟨b,o+k * 8+1,none⟩=some (.string s)/\w.cell? ⟨b,o+k * 8+2,none⟩=some (.int .i64 x.signed.set.type)/\w.cell? ⟨b,o+k * 8+3,none⟩=some (.int .i64 x.signed.set.life)/\w.cell? ⟨b,o+k * 8+4,none⟩=some dv/\w.cell? ⟨b,o+k * 8+5,none⟩=some sv/\w.cell? ⟨b,o+k * 8+6,none⟩=some fv/\w.cell? ⟨b,o+k * 8+7,none⟩=some pv:=by
 obtain⟨A',c',hA',_,_,bK⟩:=h
 cases hA'
 obtain⟨b,o,e,hA,bG,hlen,hce,z,s,dv,sv,fv,pv,he,h1,_,h3,_,h5,h6,h7,h8⟩:=bK k _ hx;subst he;exact⟨b,o,z,s,dv,sv,fv,pv,hA,bG,h1,h3,h5,h6,h7,h8,hce 0 _ rfl,hce 1 _ rfl,hce 2 _ rfl,hce 3 _ rfl,hce 4 _ rfl,hce 5 _ rfl,hce 6 _ rfl,hce 7 _ rfl⟩
theorem EC{sz:Nat} : ∀ (rows:List (List Value)) (i c:Nat) (u:Value) (r:List Value),(∀ q∈rows,q.length=sz)->c<sz->rows[i]?=some r->rows.flatten.set (i * sz+c) u=(rows.set i (r.set c u)).flatten
 | [],i,c,u,r,_,_,h=>by simp at h
 | q::rows,0,c,u,r,hl,hc,h=>by
   have e:q=r:=by simpa using h
   subst e;rw[List.flatten_cons,Nat.zero_mul,Nat.zero_add,List.set_append_left _ _ (by rw[hl q (by simp)];exact hc),List.set_cons_zero,List.flatten_cons]
 | q::rows,i+1,c,u,r,hl,hc,h=>by
   have hq:=hl q (by simp);have ih:=EC rows i c u r (λx hx=>hl x (mQ _ hx)) hc (by simpa using h);rw[List.flatten_cons,List.set_append_right _ _ (by rw[hq,Nat.succ_mul];omega),hq,show (i+1) * sz+c - sz=i * sz+c by rw[Nat.succ_mul];omega,ih,List.set_cons_succ,List.flatten_cons]
theorem br.stored{α:Type}{R:World->Nat->List Value->α->Prop}(hk:cY R)(hs:fV R)(hm:dw R){sz:Nat}{e:TypeId}{base:Nat}{M:Nat->Prop}{w:World}{g n cap:Nat}{xs:List α}(h:br R sz e base M w (.slice (some ⟨g,0,none⟩) n cap) xs)(hn:xs.length=n){i c:Nat}{x y:α}(hi:xs[i]?=some x)(hc:c<sz)(u:Value)
 (hR:∀ r,r.length=sz->R (bd w M) w.heap.size r x->R (bd w M) w.heap.size (r.set c u) y):br R sz e base M (w.setCell ⟨g,i * sz+c,none⟩ u) (.slice (some ⟨g,0,none⟩) n cap) (xs.set i y):=by
 obtain⟨rows,h1,h2,h3,h4⟩:=h;subst hn;have dt:=(cQ.1 hi).1;have hr:=aQ (show i<rows.length by omega);obtain⟨r,hr'⟩:∃ r,rows[i]?=some r:=⟨_,hr⟩;have hlen:=bL.rows_len (w:=bd w M) (B:=w.heap.size) h1 h4;have tf:M g:=h3 g rfl;have tq:Leaves' M w (w.setCell ⟨g,i * sz+c,none⟩ u) M:=Leaves'.setCell M w tf u;refine⟨rows.set i (r.set c u),by simp[h1],?_,h3,λj q z hq hz=>?_⟩
 ·rw[List.length_set,<-EC rows i c u r hlen hc hr'];exact (World.ownsRow.stored h2 (i * sz+c) u).1
 ·rw[List.getElem?_set] at hq hz;by_cases dp:i=j
  ·subst dp;rw[Qb rfl,Qb (by omega)] at hq;rw[Qb rfl,Qb dt] at hz
   cases hq;cases hz
   obtain⟨h5,h6⟩:=h4 i r x hr' hi;exact⟨by rw[List.length_set];exact h5,tq.read hk hs hm (hR r h5 h6)⟩
  ·rw[Qc dp] at hq hz;obtain⟨h5,h6⟩:=h4 j q z hq hz;exact⟨h5,tq.read hk hs hm h6⟩
theorem br.frozenAt{α:Type}{R:World->Nat->List Value->α->Prop}{sz:Nat}{e:TypeId}{base:Nat}{M:Nat->Prop}{w:World}{g n cap:Nat}{xs:List α}(h:br R sz e base M w (.slice (some ⟨g,0,none⟩) n cap) xs)(hn:xs.length=n)(j:Nat):w.frozen? ⟨g,j,none⟩=false:=by
 obtain⟨rows,h1,h2,_⟩:=h;subst hn;exact World.ownsRow.frozenAt h2 j
theorem rK:fV ii:=λ_ _ _ _ _ _ hM ⟨z,s,dv,sv,fv,pv,h0,h1,h2,h3,h4,h5,h6,h7,h8⟩=>⟨z,s,dv,sv,fv,pv,h0,h1,h2,h3,h4,h5.sans zt hM,h6.sans zx hM,h7.sans (λ_ _ _ _ _ _ _ h=>h) hM,h8.sans (λ_ _ _ _ _ _ _ h=>h) hM⟩
theorem Yo:∀ (w:World) (B:Nat) (r:List Value) (y:Np.Held),ii w B r y->∀ u∈r,u.oneCell'=true:=λw B r y ⟨z,s,dv,sv,fv,pv,h0,_,_,_,_,h5,h6,h7,h8⟩ u hu=>by
 obtain⟨_,_,rfl,_⟩:=al h5;obtain⟨_,_,rfl,_⟩:=al h6;obtain⟨_,_,rfl,_⟩:=al h7;obtain⟨_,_,rfl,_⟩:=al h8;rw[h0] at hu;simp only[List.mem_cons,Qh,or_false] at hu;rcases hu with rfl | rfl | rfl | rfl | rfl | rfl | rfl | rfl <;> rfl
theorem br.formSome{α:Type}{R:World->Nat->List Value->α->Prop}{sz:Nat}{e:TypeId}{base:Nat}{M:Nat->Prop}{w:World}{v:Value}{xs:List α}{n:Nat}(h:br R sz e base M w v xs)(hn:xs.length=n)(h0:0<n):∃ g cap,v = .slice (some ⟨g,0,none⟩) n cap/\base<=g/\g<w.heap.size/\M g:=by
 obtain⟨rows,h1,h2,h3,h4⟩:=h;subst hn;rcases h2.2 with ⟨rfl,h⟩ | ⟨g,cap,cur,rfl,hb,hg,_⟩
 ·omega
 ·exact⟨g,cap,rfl,hb,(eQ.1 hg).1,h3 g rfl⟩
def OG(ps:List (Np.Span×Np.Signed)):Prop:=∀ p∈ps,p.1.frm<p.1.til
theorem CE{ps:List (Np.Span×Np.Signed)}(h:OG ps)(s:Np.Signed):Np.OH (Np.fq ps s):=λ_ ht=>h _ (Np.Ca.1 ht)
theorem NY(ps:List (Np.Span×Np.Signed))(s:Np.Signed):(Np.fq ps s).length<=ps.length:=by
 unfold Np.fq;rw[List.length_map];exact List.length_filter_le _ _
theorem NJ{α:Type}{R:World->Nat->List Value->α->Prop}{sz:Nat}{w:World}{B n c:Nat}{A:Option Addr}{xs:List α}(h:SlR R sz w B (.slice A n c) xs):xs.length=n:=by
 obtain⟨A',c',h1,_⟩:=al h;simp only[Value.slice.injEq] at h1;exact h1.2.1.symm
theorem Yp{W:World}{B:Nat}{r:List Value}{x:Np.Held}{v:Value}{ps:List Np.Span}(h:ii W B r x)(hv:SlR dU 2 W B v ps):ii W B (r.set 7 v) ⟨x.zone,x.signed,x.fresh,ps⟩:=by
 obtain⟨z,s,dv,sv,fv,pv,rfl,h1,h2,h3,h4,h5,h6,h7,h8⟩:=h;exact⟨z,s,dv,sv,fv,v,rfl,h1,h2,h3,h4,h5,h6,h7,hv⟩
end
end Go.Proofs.YtfnopgdcaanaiaaGreatDoor
