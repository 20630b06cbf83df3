/- Parts of the proof. No condition. -/
import Derived.Test.YtfnopgdcaanaiaaGreatDoorH22
set_option linter.all false
set_option maxRecDepth 100000
set_option maxHeartbeats 8000000
namespace Go.Proofs.YtfnopgdcaanaiaaGreatDoor
section
open Go.RowKit
theorem ki{α:Type}(R:World->Nat->List Value->α->Prop)(sz:Nat)(w:World)(B:Nat):SlR R sz w B (.slice none 0 0) []:=⟨none,0,rfl,by simp,by simp,λi x hx=>by simp at hx⟩
theorem Su{sz:Nat}{rows:List (List Value)}(hl:∀ r∈rows,r.length=sz){i j:Nat}{r:List Value}{v:Value}(hi:rows[i]?=some r)(hj:r[j]?=some v):rows.flatten[i * sz+j]?=some v:=by
 induction rows generalizing i with
 | nil=>simp at hi
 | cons y l ih=>
  have hy:=hl y (by simp);rw[List.flatten_cons]
  cases i with
  | zero=>
   simp at hi;subst hi
   have:=(cQ.1 hj).1
   rw[Nat.zero_mul,Nat.zero_add,List.getElem?_append_left (by omega)];exact hj
  | succ i=>
   rw[oQ (by rw[hy,Nat.succ_mul];omega),hy,show (i+1) * sz+j - sz=i * sz+j by rw[Nat.succ_mul];omega];exact ih (λr hr=>hl r (mQ _ hr)) (by simpa using hi)
theorem Rp(w:World)(l:List Value)(T:TypeId):ag (w.alloc (.cells l.toArray T)) w.heap.size 0 l:=λj v hj=>by
 have h:=heap_alloc_new w (.cells l.toArray T);unfold World.cell?;rw[h,Nat.zero_add];simpa using hj
theorem GB{α:Type}{R:World->Nat->List Value->α->Prop}{sz:Nat}{w:World}{B b n:Nat}{xs:List α}(rows:List (List Value))(hn:xs.length=n)(hb:b<B)(hs:n<=1000)(hc:ag w b 0 rows.flatten)(hl:∀ r∈rows,r.length=sz)(hr:∀ (i:Nat) (x:α),xs[i]?=some x->∃ r,rows[i]?=some r/\R w B r x):SlR R sz w B (.slice (some ⟨b,0,none⟩) n n) xs:=by
 subst hn;refine⟨_,_,rfl,bQ _,by omega,λi x hx=>?_⟩;obtain⟨r,h1,h2⟩:=hr i x hx;exact⟨b,0,r,rfl,hb,hl r (gQ h1),λj v hj=>by
  have:=hc _ v (Su hl h1 hj)
  rwa [Nat.zero_add] at this |-,h2⟩
theorem gL{α:Type}{R:World->Nat->List Value->α->Prop}{w:World}{B b:Nat}{x:α}(r:List Value)(hb:b<B)(hc:ag w b 0 r)(h:R w B r x):SlR R r.length w B (.slice (some ⟨b,0,none⟩) 1 1) [x]:=
 GB [r] rfl hb (by omega) (by simpa using hc) (by simp) (λi y hy=>by
  match i,hy with
  | 0,hy=>cases hy;exact⟨_,rfl,h⟩
  | i+1,hy=>simp at hy)
theorem Mn{α:Type}{R:World->Nat->List Value->α->Prop}{w:World}{B b:Nat}{x y:α}(r s:List Value)(hl:s.length=r.length)(hb:b<B)(hc:ag w b 0 (r++s))(h:R w B r x)(h2:R w B s y):SlR R r.length w B (.slice (some ⟨b,0,none⟩) 2 2) [x,y]:=
 GB [r,s] rfl hb (by omega) (by simpa using hc) (by simp[hl]) (λi z hz=>by
  match i,hz with
  | 0,hz=>cases hz;exact⟨_,rfl,h⟩
  | 1,hz=>cases hz;exact⟨_,rfl,h2⟩
  | i+2,hz=>simp at hz)
theorem Gi{α:Type}{R:World->Nat->List Value->α->Prop}{w:World}{B b:Nat}{x y z:α}(r s t:List Value)(hl:s.length=r.length)(dI:t.length=r.length)(hb:b<B)(hc:ag w b 0 (r++s++t))(h:R w B r x)(h2:R w B s y)(h3:R w B t z):SlR R r.length w B (.slice (some ⟨b,0,none⟩) 3 3) [x,y,z]:=
 GB [r,s,t] rfl hb (by omega) (by simpa using hc) (by simp[hl,dI]) (λi u hu=>by
  match i,hu with
  | 0,hu=>cases hu;exact⟨_,rfl,h⟩
  | 1,hu=>cases hu;exact⟨_,rfl,h2⟩
  | 2,hu=>cases hu;exact⟨_,rfl,h3⟩
  | i+3,hu=>simp at hu)
theorem ag.off{w:World}{b o:Nat}{e:List Value}(h:ag w b o e){M:Nat->Prop}(hM:¬ M b):ag (bd w M) b o e:=λj v hj=>(iQ (a:=⟨b,o+j,none⟩) (kh hM)).trans (h j v hj)
theorem Ra{α:Type}{R:World->Nat->List Value->α->Prop}{sz:Nat}{p:Nat->Prop}{w w':World}{v:Value}{xs:List α}(h:∀ M:Nat->Prop,(∀ k,M k->p k)->SlR R sz (bd w M) w.heap.size v xs)(hk:cY R)(hm:dw R)(hb:Below w.heap.size w w'){M:Nat->Prop}(hM:∀ k,M k->p k\/w.heap.size<=k):SlR R sz (bd w' M) w'.heap.size v xs:=by
 have h1:=h (λk=>M k/\k<w.heap.size) (λk e=>(hM k e.1).resolve_right (by omega));refine (h1.keep hk ?_).more hm hb.size;refine⟨hb.os,hb.tape,hb.output,by rw[jH,jH];exact hb.size,λk hk=>?_⟩;by_cases hm:M k
 ·have h1:k<w'.heap.size:=lQ hk hb.size;rw[tS hm,tS (M:=λk=>M k/\k<w.heap.size) ⟨hm,hk⟩];simp[hk,h1]
 ·rw[kh hm,kh (M:=λk=>M k/\k<w.heap.size) (λe=>hm e.1)];exact hb.block k hk
theorem fR.later{α:Type}{R:World->Nat->List Value->α->Prop}{sz n:Nat}{w w':World}{v:Value}{xs:List α}(h:fR R sz 0 n w v xs)(hk:cY R)(hm:dw R)(hb:Below w.heap.size w w'){M:Nat->Prop}(hM:∀ k,M k->k<n\/w.heap.size<=k):SlR R sz (bd w' M) w'.heap.size v xs:=
 Ra h hk hm hb (λk e=>(hM k e).imp (λe=>⟨jQ _,e⟩) id)
theorem fR.keep{α:Type}{R:World->Nat->List Value->α->Prop}{sz n:Nat}{w w':World}{v:Value}{xs:List α}(h:fR R sz 0 n w v xs)(hk:cY R)(hm:dw R)(hb:Below w.heap.size w w'):fR R sz 0 n w' v xs:=λ_ hM=>h.later hk hm hb (λk e=>.inl (hM k e).2)
theorem fR.nil{α:Type}(R:World->Nat->List Value->α->Prop)(sz n:Nat)(w:World):fR R sz 0 n w (.slice none 0 0) []:=λ_ _=>ki _ _ _ _
theorem fR.form{α:Type}{R:World->Nat->List Value->α->Prop}{sz n:Nat}{w:World}{v:Value}{xs:List α}(h:fR R sz 0 n w v xs):∃ A c,v = .slice A xs.length c:=by
 obtain⟨A,c,rfl,_⟩:=al (h (λ_=>False) (λ_ e=>e.elim));exact⟨_,_,rfl⟩
theorem dV{w w':World}{n:Nat}(l:List Value)(T:TypeId)(hn:w.heap.size=n)(he:w'=w.alloc (.cells l.toArray T)):ag w' n 0 l:=by subst hn;subst he;exact Rp w l T
theorem ag.move{w w':World}{b o:Nat}{e:List Value}(h:ag w b o e)(hb:w'.heap[b]?=w.heap[b]?):ag w' b o e:=λj v hj=>(iQ (a:=⟨b,o+j,none⟩) hb).trans (h j v hj)
structure OneAt(n:Nat)(w:World)(b:Nat)(l:List Value):Prop where
 lo:n<=b
 hi:b<w.heap.size
 cells:ag w b 0 l
theorem OneAt.keep{n:Nat}{w w':World}{b:Nat}{l:List Value}(h:OneAt n w b l)(hb:Below w.heap.size w w'):OneAt n w' b l:=⟨h.lo,lQ h.hi hb.size,h.cells.keep hb h.hi⟩
def nR(w:World)(X:Nat)(L:List Value):Prop:=∀ i v,L[i]?=some v->w.cell? ⟨X,i,none⟩=some v
theorem nR.keep{w w':World}{X B:Nat}{L:List Value}(h:nR w X L)(hb:Below B w w')(hX:X<B):nR w' X L:=λi v hi=>(hb.cell (p:=⟨X,i,none⟩) hX).trans (h i v hi)
theorem ku{w w':World}{X:Nat}(l:List Value)(T:TypeId)(hn:w.heap.size=X)(he:w.alloc (.cells l.toArray T)=w'):nR w' X l:=λi v hi=>by
 have:=dV l T hn he.symm i v hi
 rwa [Nat.zero_add] at this
end
end Go.Proofs.YtfnopgdcaanaiaaGreatDoor
