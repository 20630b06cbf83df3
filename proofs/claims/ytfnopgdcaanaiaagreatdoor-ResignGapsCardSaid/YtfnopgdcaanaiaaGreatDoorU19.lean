/- Parts of the proof. No condition. -/
import Derived.Test.YtfnopgdcaanaiaaGreatDoorU13
import Derived.Test.YtfnopgdcaanaiaaGreatDoorU16
set_option linter.all false
set_option maxRecDepth 100000
set_option maxHeartbeats 8000000
namespace Go.Proofs.YtfnopgdcaanaiaaGreatDoor
section
open Go.RowKit

def ES(W:World)(B:Nat)(e:List Value)(x:Np.WorldP):Prop:=∃ (hv zv:Value) (s:ByteArray) (dv cX:Value),e = [hv,zv,.string s,.int .i64 x.anchor.type,.int .i64 x.anchor.life,dv,cX]/\s.data.toList=x.anchor.name/\s.size<=140737488355328/\
 SlR kl 3 W B hv x.hosts/\SlR sX 3 W B zv x.zones/\SlR bW 3 W B dv x.anchor.data/\SlR gL 1 W B cX x.hints
theorem YE:cL ES:=λ_ _ _ _ _ ⟨hv,cv,s,dv,cX,h0,h1,h2,h3,h4,h5,h6⟩ hb=>⟨hv,cv,s,dv,cX,h0,h1,h2,h3.keep nl hb,h4.keep C7 hb,h5.keep cu hb,h6.keep kM hb⟩
theorem YF:dD ES:=λ_ _ _ _ _ ⟨hv,cv,s,dv,cX,h0,h1,h2,h3,h4,h5,h6⟩ hb=>⟨hv,cv,s,dv,cX,h0,h1,h2,h3.more vT hb,h4.more G5 hb,h5.more cS hb,h6.more t8 hb⟩
theorem JY{w w':World}{n:Nat}(l:List Value)(T:TypeId)(hn:w.heap.size=n)(he:w'=w.alloc (.cells l.toArray T)):fZ w' n 0 l:=by subst hn;subst he;exact Rq w l T
structure OneAt(n:Nat)(w:World)(b:Nat)(l:List Value):Prop where
 lo:n<=b
 hi:b<w.heap.size
 cells:fZ w b 0 l
theorem OneAt.keep{n:Nat}{w w':World}{b:Nat}{l:List Value}(h:OneAt n w b l)(hb:Below w.heap.size w w'):OneAt n w' b l:=⟨h.lo,lQ h.hi hb.size,h.cells.keep hb h.hi⟩
def qE(w:World)(X:Nat)(L:List Value):Prop:=∀ i v,L[i]?=some v->w.cell? ⟨X,i,none⟩=some v
theorem qE.keep{w w':World}{X B:Nat}{L:List Value}(h:qE w X L)(hb:Below B w w')(hX:X<B):qE w' X L:=λi v hi=>(hb.cell (p:=⟨X,i,none⟩) hX).trans (h i v hi)
theorem oB{w w':World}{X:Nat}(l:List Value)(T:TypeId)(hn:w.heap.size=X)(he:w.alloc (.cells l.toArray T)=w'):qE w' X l:=λi v hi=>by
 have:=JY l T hn he.symm i v hi
 rwa [Nat.zero_add] at this
end
section
open Go.RowKit Go.Shelf
attribute [local go_sem] Oper.semAt_some
theorem YT{α:Type}{R:afQ α}{sz:Nat}{w:World}{B:Nat}{v:Value}{xs:List α}(h:SlR R sz w B v xs):∃ A c,v = .slice A xs.length c/\xs.length<=c/\xs.length<=140737488355328:=by
 obtain⟨A,c,h1,h2,h3,_⟩:=h;exact⟨A,c,h1,h2,h3⟩
theorem o4{α:Type}{R:afQ α}{sz:Nat}{w:World}{B:Nat}{v:Value}{xs:List α}(h:SlR R sz w B v xs):∃ A n c,v = .slice A n c/\xs.length=n/\n<=c/\n<=140737488355328:=by
 obtain⟨A,c,h1,h2,h3⟩:=YT h;exact⟨A,_,c,h1,rfl,h2,h3⟩
def Np.JB(g x:Np.Sig):Prop:=x.frm=g.frm/\x.til=g.til/\0<=x.frm/\x.frm<=x.til/\x.til<=20000000
theorem Np.Xh{gs:List Np.Sig}(h:∀ g:Np.Sig,gs[0]?=some g->∀ (i:Nat) (x:Np.Sig),gs[i]?=some x->Np.JB g x):Np.lI gs=true:=by
 cases gs with
 | nil=>rfl
 | cons g r=>
  obtain⟨_,_,h3,h4,h5⟩:=h g rfl 0 g rfl;have h6:(g::r).any (Np.ua g)=false:=by
   rw[List.any_eq_false];intro x hx;obtain⟨i,hi⟩:=List.mem_iff_getElem?.1 hx;obtain⟨e1,e2,_⟩:=h g rfl i x hi;simp[Np.ua,e1,e2]
  rw[show Np.lI (g::r)=(!(decide (g.frm<0)||decide (g.til<g.frm)||decide (20000000<g.til))&&!((g::r).any (Np.ua g))) from rfl,h6,tQ (by omega:¬ g.frm<0),tQ (by omega:¬ g.til<g.frm),tQ (by omega:¬ 20000000<g.til)];rfl
theorem Np.Xg{gs:List Np.Sig}{g x:Np.Sig}{i:Nat}(hg:gs[0]?=some g)(hx:gs[i]?=some x)(h:¬ Np.JB g x):Np.lI gs=false:=by
 cases gs with
 | nil=>cases hg
 | cons g' r=>
  cases hg
  cases hq:Np.lI (g::r) with
  | false=>rfl
  | true=>
   exfalso;unfold Np.lI at hq;simp only[Bool.and_eq_true,Bool.not_eq_true',Bool.or_eq_false_iff,decide_eq_false_iff_not] at hq;obtain⟨⟨⟨h1,h2⟩,h3⟩,h4⟩:=hq;have h5:=List.any_eq_false.1 h4 x (gQ hx);simp only[Np.ua,Bool.or_eq_true,bne_iff_ne,ne_eq,not_or,Decidable.not_not] at h5;exact h ⟨h5.1,h5.2,by omega,by omega,by omega⟩
theorem YQ{w:World}{B n c:Nat}{A:Option Addr}{xs:List Np.Sig}(h:SlR cV 6 w B (.slice A n c) xs){k:Nat}{x:Np.Sig}(hx:xs[k]?=some x):∃ (b o:Nat) (z:ByteArray),A=some ⟨b,o,none⟩/\b<B/\
 w.cell? ⟨b,o+k * 6,none⟩=some (.string z)/\w.cell? ⟨b,o+k * 6+1,none⟩=some (.int .i64 x.key)/\w.cell? ⟨b,o+k * 6+2,none⟩=some (.int .i64 x.alg)/\w.cell? ⟨b,o+k * 6+3,none⟩=some (.int .i64 x.frm)/\w.cell? ⟨b,o+k * 6+4,none⟩=some (.int .i64 x.til)/\w.cell? ⟨b,o+k * 6+5,none⟩=some (.int .u64 x.sum):=by
 obtain⟨A',c',h1,_,_,he⟩:=h;obtain⟨b,o,e,rfl,hb,_,hce,z,_,_,rfl⟩:=he k x hx;simp only[Value.slice.injEq] at h1;obtain⟨rfl,_⟩:=h1;exact⟨b,o,z,rfl,hb,hce 0 _ rfl,hce 1 _ rfl,hce 2 _ rfl,hce 3 _ rfl,hce 4 _ rfl,hce 5 _ rfl⟩
end
section
open Go.RowKit Go.Shelf
attribute [local go_sem] Oper.semAt_some
def Np.Do(s:Np.Signed)(drift stop:Int):List Np.Span:=if Np.nn s drift stop<=Np.nm s drift then [] else [⟨Np.nm s drift,Np.nn s drift stop⟩]
theorem Np.Hg{s:Np.Signed}{drift stop:Int}(h:Np.gG s drift stop=0):Np.fl s drift stop=Np.Do s drift stop:=by unfold Np.fl;rw[Qb h];rfl
def Np.WinB(gs:List Np.Sig):Prop:=∀ g,gs[0]?=some g->0<=g.frm/\g.frm<=g.til/\g.til<=20000000
theorem Np.M6{s:Np.Signed}(h:Np.plain s=true):Np.WinB s.sigs:=λg hg=>by
 have h1:Np.lI s.sigs=true:=by simp only[Np.plain,Bool.and_eq_true] at h;exact h.2
 refine Decidable.byContradiction λhn=>?_;rw[Np.Xg hg hg (λhi=>hn ⟨hi.2.2.1,hi.2.2.2.1,hi.2.2.2.2⟩)] at h1
 cases h1
end
section
open Go.RowKit



end
end Go.Proofs.YtfnopgdcaanaiaaGreatDoor
