/- No condition. -/
import Derived.Test.YtadhigmjilijcaaGreatDoorH18
import Derived.Test.YtadhigmjilijcaaGreatDoorH19
import Derived.Test.YtadhigmjilijcaaGreatDoorH20
set_option linter.all false
set_option maxRecDepth 100000
set_option maxHeartbeats 8000000
namespace Go.Proofs.YtadhigmjilijcaaGreatDoor
open Go.Proofs.Tryz
section
open Go.RowKit Go.Shelf
attribute [local go_sem] Oper.semAt_some
theorem Np.TG{known:List Np.Signed}{anchor:Np.DSet}{n:List UInt8}{t at' dr:Int}(h:Np.qZ known=false\/Np.bi anchor=false\/anchor.type≠6\/anchor.name≠[46]):Np.mX known anchor n t at' dr=(⟨0,([],0),[]⟩,1):=by
 unfold Np.mX;rw[QbQ];rcases h with h | h | h | h
 ·unfold Np.qZ at h;simp only[Bool.and_eq_false_iff,decide_eq_false_iff_not,Bool.not_eq_false'] at h;rcases h with h | h
  ·left;omega
  ·right;left;exact h
 ·right;right;left;exact h
 ·right;right;right;left;exact h
 ·right;right;right;right;exact h
theorem Np.Ai{known:List Np.Signed}{anchor:Np.DSet}{n:List UInt8}{t at' dr:Int}(h1:Np.qZ known=true)(h2:Np.bi anchor=true)(h3:anchor.type=6)(h4:anchor.name = [46])(h5:(Np.ai n&&(decide (1<=t)&&decide (t<=8)))=true)(h6:Np.mo at' dr=true):Np.mX known anchor n t at' dr=Np.t6 known anchor at' dr (Np.lx known t 8 n) []:=by
 unfold Np.qZ at h1;simp only[Bool.and_eq_true,Qa,Bool.not_eq_true'] at h1 h5;unfold Np.mX;rw[Qc (by
  rintro (h | h | h | h | h)
  ·omega
  ·rw[h1.2] at h;cases h
  ·rw[h2] at h;cases h
  ·exact h h3
  ·exact h h4),Qc (by
    rintro (h | h)
    ·rw[Np.gY ⟨h5.1,h5.2.1,h5.2.2⟩] at h;cases h
    ·rw[h6] at h;cases h)]
def MO(x:Np.Verd×Int)(w:World)(e:Ending)(w':World):Prop:=
 ∃ (qn:ByteArray) (A:Option Addr) (n c:Nat),e = .returned (.tuple #[.agg #[.int .i64 x.1.kind,.string qn,.int .i64 x.1.q.2,.slice A n c],.int .i64 x.2])/\qn.data.toList=x.1.q.1/\qn.size<=140737488355328/\dO az 5 0 w.heap.size w' (.slice A n c) x.1.sets/\Below w.heap.size w w'
def mZ(w:World)(X:Nat)(k:Int)(q:ByteArray)(q2:Int)(v:Value)(c:Int):World:=(((((w.setCell ⟨X+1+1,0,none⟩ (.int .i64 k)).setCell ⟨X+1+1,1,none⟩ (.string q)).setCell ⟨X+1+1,2,none⟩ (.int .i64 q2)).setCell ⟨X+1+1,3,none⟩ v).setCell ⟨X+1+1+1,0,none⟩ (.int .i64 c))
structure Outs(X:Nat)(W:World)(k:Int)(q:ByteArray)(q2:Int)(v:Value)(c:Int):Prop where
 h2:W.heap[X+1+1]?=some (.cells [Value.int .i64 k,.string q,.int .i64 q2,v].toArray 33 (0,0))
 h3:W.heap[X+1+1+1]?=some (.cells [Value.int .i64 c].toArray 34 (0,0))
theorem Outs.out{X:Nat}{W:World}{k:Int}{q:ByteArray}{q2:Int}{v:Value}{c:Int}(h:Outs X W k q q2 v c)(k':Int)(q':ByteArray)(q2':Int)(v':Value)(c':Int):Outs X (mZ W X k' q' q2' v' c') k' q' q2' v' c':=
 ⟨by simp[mZ,World.setCell,Array.getElem?_modify,h.h2],by simp[mZ,World.setCell,Array.getElem?_modify,h.h3]⟩
theorem Outs.same{X:Nat}{W W':World}{k:Int}{q:ByteArray}{q2:Int}{v:Value}{c:Int}(h:Outs X W k q q2 v c)(h2:W'.heap[X+1+1]?=W.heap[X+1+1]?)(h3:W'.heap[X+1+1+1]?=W.heap[X+1+1+1]?):Outs X W' k q q2 v c:=⟨h2.trans h.h2,h3.trans h.h3⟩
theorem Outs.keep{X n:Nat}{W W':World}{k:Int}{q:ByteArray}{q2:Int}{v:Value}{c:Int}(h:Outs X W k q q2 v c)(hb:Below n W W')(hn:X+1+1+1<n):Outs X W' k q q2 v c:=h.same (hb.block _ (by omega)) (hb.block _ (by omega))
theorem T8(w:World)(X:Nat)(k:Int)(q:ByteArray)(q2:Int)(v:Value)(c:Int):(mZ w X k q q2 v c).heap.size=w.heap.size:=by simp[mZ,World.setCell]
theorem GH{w0 w:World}{X:Nat}(h:Below X w0 w)(k:Int)(q:ByteArray)(q2:Int)(v:Value)(c:Int):Below X w0 (mZ w X k q q2 v c):=
 ((((h.blSe (p:=⟨X+1+1,0,none⟩) _).blSe (p:=⟨X+1+1,1,none⟩) _).blSe (p:=⟨X+1+1,2,none⟩) _).blSe (p:=⟨X+1+1,3,none⟩) _).blSe (p:=⟨X+1+1+1,0,none⟩) _
theorem LU{S:Nat->Prop}{A w:World}{X:Nat}(h:RdStep S A w)(h2:S (X+1+1))(h3:S (X+1+1+1))(k:Int)(q:ByteArray)(q2:Int)(v:Value)(c:Int):RdStep S A (mZ w X k q q2 v c):=
 ((((h.setCell (p:=⟨X+1+1,0,none⟩) (.inl h2) _).setCell (p:=⟨X+1+1,1,none⟩) (.inl h2) _).setCell (p:=⟨X+1+1,2,none⟩) (.inl h2) _).setCell (p:=⟨X+1+1,3,none⟩) (.inl h2) _).setCell (p:=⟨X+1+1+1,0,none⟩) (.inl h3) _
theorem LT(w:World)(X:Nat)(k:Int)(q:ByteArray)(q2:Int)(v:Value)(c:Int){i:Nat}(h2:i≠X+1+1)(h3:i≠X+1+1+1):(mZ w X k q q2 v c).heap[i]?=w.heap[i]?:=by
 simp[mZ,World.setCell,Array.getElem?_modify,Ne.symm h2,Ne.symm h3]
theorem LF{X:Nat}{W:World}{k:Int}{q:ByteArray}{q2:Int}{A:Option Addr}{n c:Nat}{cd:Int}(h:Outs X W k q q2 (.slice A n c) cd){tmps:Array Value}(t0:tmps[10]?=some (.pointer (some ⟨X+1+1,0,none⟩)))(t1:tmps[11]?=some (.pointer (some ⟨X+1+1+1,0,none⟩))) :
 (results Tryz.f11 tmps).run prog W = .ok (.tuple #[.agg #[.int .i64 k,.string q,.int .i64 q2,.slice A n c],.int .i64 cd]) W:=by
 have a0:=af _ h.h2 0 _ rfl;have a1:=af _ h.h2 1 _ rfl;have a2:=af _ h.h2 2 _ rfl;have a3:=af _ h.h2 3 _ rfl;have a4:=af _ h.h3 0 _ rfl;simp[results,results11,go_sem,a0,a1,a2,a3,a4,t0,t1]
def iU(A:Option Addr)(N C:Nat)(an:ByteArray)(aty alf:Int)(aA:Option Addr)(aN aC:Nat)(at' dr:Int)(e2:Value)(e7:Value)(i:Nat):Value:=[.slice A N C,.slice A N C,e2,.agg #[.string an,.int .i64 aty,.int .i64 alf,.slice aA aN aC],.int .i64 at',.int .i64 dr,.agg #[.slice A N C,e2,.string an,.int .i64 aty,.int .i64 alf,.slice aA aN aC,.int .i64 at',.int .i64 dr],e7,undef].getD i undef
def mj(i:Nat):Nat:=[56,57,58,59,60,61,62,12,0].getD i 0
def a6X:List Nat:=[0,1,3,4,5,6,2,7].map mj
theorem qX:∀ i∈[0,1,3,4,5,6,2,7],mj i<97/\mj i∈a6X:=by decide
theorem tZ:∀ i∈[0,1,3,4,5,6,2,7],∀ j∈[0,1,3,4,5,6,2,7],j≠i->mj i≠mj j:=by decide
def lu(T:Nat)(oA:Option Addr)(m oc:Nat)(ss:ByteArray)(sty slf:Int)(dA:Option Addr)(dn dc:Nat)(gA:Option Addr)(gn gc:Nat)(e3:Value)(e4:Value)(e5:Value)(i:Nat):Value:=[.slice oA m oc,.pointer (some ⟨T,1,none⟩),.agg #[.string ss,.int .i64 sty,.int .i64 slf,.slice dA dn dc,.slice gA gn gc],e3,e4,e5,undef].getD i undef
def nP(i:Nat):Nat:=[89,90,91,92,93,94,0].getD i 0
def a6K:List Nat:=[0,1,2,3,4,5].map nP
theorem vD:∀ i∈[0,1,2,3,4,5],nP i<97/\nP i∈a6K:=by decide
theorem x8:∀ i∈[0,1,2,3,4,5],∀ j∈[0,1,2,3,4,5],j≠i->nP i≠nP j:=by decide
theorem GG{w0 w:World}{n E:Nat}(h:Below n w0 w)(hE:n<=E)(v0 v1 v2 v3 v4 v5 v6 v7:Value) :
 Below n w0 ((((((((w.setCell ⟨E,0,none⟩ v0).setCell ⟨E,1,none⟩ v1).setCell ⟨E,2,none⟩ v2).setCell ⟨E,3,none⟩ v3).setCell ⟨E,4,none⟩ v4).setCell ⟨E,5,none⟩ v5).setCell ⟨E,6,none⟩ v6).setCell ⟨E,7,none⟩ v7):=
 (((((((h.setCell (p:=⟨E,0,none⟩) hE _).setCell (p:=⟨E,1,none⟩) hE _).setCell (p:=⟨E,2,none⟩) hE _).setCell (p:=⟨E,3,none⟩) hE _).setCell (p:=⟨E,4,none⟩) hE _).setCell (p:=⟨E,5,none⟩) hE _).setCell (p:=⟨E,6,none⟩) hE _).setCell (p:=⟨E,7,none⟩) hE _
def Jd5(a0:Act)(X:Nat)(known:List Np.Signed)(A:Option Addr)(N C:Nat)(an:ByteArray)(aty alf:Int)(aA:Option Addr)(aN aC:Nat)(at' dr:Int)(w5:World)(ex:Exit)(a':Act)(w':World):Prop:=
 ∃ (r E:Nat) (kvs:List ((List UInt8×Int)×Value)),ex = .normal/\a'=kq a0 ([0,1,3,4,5,6,2,7].map λi=>(mj i,iU A N C an aty alf aA aN aC at' dr (.map (some r)) (.pointer (some ⟨E,0,none⟩)) i))/\
   w5.heap.size<=E/\E<w'.heap.size/\w5.heap.size<=r/\r<w'.heap.size/\r≠E/\w'.heap[E]?=some (.cells [Value.slice A N C,.map (some r),.string an,.int .i64 aty,.int .i64 alf,.slice aA aN aC,.int .i64 at',.int .i64 dr].toArray 80 (0,0))/\fB r kvs w'/\kz known w' X kvs/\Below w5.heap.size w5 w'
theorem Np.bEY(known:List Np.Signed)(n:List UInt8)(t:Int):(Np.yl known n t).length<=2+known.length:=by
 unfold Np.yl;split
 ·rw[List.length_map];unfold Np.AC
  cases hf:(Np.ups n).findSome? λa=>(Np.fS known (Np.eR a) t).bind λs=>(known.find? λp=>Np.cx p == Np.cx s&&Np.GJ p.set (Np.cx s) n a).map λp=>[s,p] with
  | none=>simp
  | some l=>
   obtain⟨a,_,ha⟩:=List.exists_of_findSome?_eq_some hf;obtain⟨x,hx,hb⟩:=Option.bind_eq_some_iff.1 ha;obtain⟨p,hp,rfl⟩:=Option.map_eq_some_iff.1 hb;simp
 ·split
  ·rw[List.length_map];unfold Np.xa
   cases hf:((Np.AE n known []).mergeSort λa b=>decide (Np.fU b<=Np.fU a)).findSome? λz=>
    if Np.zj z n t ((Np.sD known z).map (·.set))=(5,0)\/Np.zj z n t ((Np.sD known z).map (·.set))=(6,0) then some (Np.sD known z) else none with
   | none=>simp
   | some l=>
    obtain⟨z,_,hz⟩:=List.exists_of_findSome?_eq_some hf;split at hz
    ·cases hz
     have:=List.length_filter_le (λs:Np.Signed=>decide (s.set.type=8)&&Np.cx s == z) known
     simp only[Option.getD_some,Np.sD];omega
    ·cases hz
  ·simp;omega
theorem Np.TW(known:List Np.Signed)(t:Int):∀ (k:Nat) (n:List UInt8),(Np.lx known t k n).length<=k+2+known.length
 | k,n=>by
   unfold Np.lx;split
   ·simp;omega
   ·split
    ·have:=Np.bEY known n t;omega
    ·rename_i a _
     cases k with
     | zero=>simp;omega
     | succ k=>
      have:=Np.TW known t k (Np.vG a.set)
      simp;omega
def JMs(X G:Nat)(gv:Value)(S:Nat->Prop)(k:Nat):Prop:=k=G\/k=X+1+1\/k=X+1+1+1\/gv.ownBlock=some k\/¬ S k
structure JSt(known:List Np.Signed)(anchor:Np.DSet)(at' dr:Int)(LS:List Np.Found)(X E G:Nat)(jl:List Value)(w:World)(pre:List FV)(S:Nat->Prop)(W:World)(gv:Value)(good:List Np.Signed):Prop where
 s2:S (X+1+1)
 s3:S (X+1+1+1)
 sg:S G
 so:∀ g,gv.ownBlock=some g->S g
 sb:∀ k,S k->k=X+1+1\/k=X+1+1+1\/G<=k
 cg:W.heap[G]?=some (.cells [gv].toArray 22 (0,0))
 out:Outs X W 0 ⟨#[]⟩ 0 (.slice none 0 0) 0
 ce:W.heap[E]?=some (.cells jl.toArray 80 (0,0))
 ow:em az 5 44 (G+1) (JMs X G gv S) W gv good
 len:good.length=pre.length
 val:∀ rest,LS=pre.map (·.2)++rest->Np.t6 known anchor at' dr LS []=Np.t6 known anchor at' dr rest good
 bel:Below X w W
def JI(known:List Np.Signed)(anchor:Np.DSet)(at' dr:Int)(LS:List Np.Found)(X E G:Nat)(jl:List Value)(w:World)(pre:List FV)(S:Nat->Prop)(W:World):Prop:=∃ gv good,JSt known anchor at' dr LS X E G jl w pre S W gv good
def JX(known:List Np.Signed)(anchor:Np.DSet)(at' dr:Int)(LS:List Np.Found)(X:Nat)(w:World)(c:Code)(_:List FV)(S:Nat->Prop)(W:World):Prop:=
 c = .ret/\S (X+1+1)/\S (X+1+1+1)/\∃ (k:Int) (q:ByteArray) (q2 cd:Int),Outs X W k q q2 (.slice none 0 0) cd/\Np.t6 known anchor at' dr LS []=(⟨k,(q.data.toList,q2),[]⟩,cd)/\q.size<=140737488355328/\Below X w W
theorem TE{n B bq:Nat}{S:Nat->Prop}{w0 W W':World}(hb:Below n w0 W)(h:ItO B (λk=>k=bq) S W W')(hB:n<=B)(hq:n<=bq)(hz:n<=w0.heap.size):Below n w0 W':=
 ⟨h.os.trans hb.os,h.tape.trans hb.tape,h.output.trans hb.output,yQ hb.size h.size,λk hk=>(h.keep k (by have:=hb.size;omega) (.inl ⟨by omega,by omega⟩)).trans (hb.block k hk)⟩
theorem em.trim{α:Type}{R:aDQ α}(hk:dR R)(hs:ia R)(hm:ef R){sz:Nat}{e:TypeId}{base:Nat}{M:Nat->Prop}{w:World}{v:Value}{xs:List α}(h:em R sz e base M w v xs):em R sz e base (λk=>M k/\k<w.heap.size) w v xs:=
 h.leaves hk hs hm ⟨rfl,rfl,rfl,bQ _,λi hi hm=>⟨λe=>hm e.1,rfl⟩⟩ (λg hg=>⟨rfl,by obtain⟨rows,h1,h2,h3,h4⟩:=h;exact⟨h3 g hg,(h2.lt g hg).2⟩⟩)
section
variable {known:List Np.Signed} {anchor:Np.DSet} {at' dr:Int} {LS:List Np.Found} {X E G B bq:Nat} {jl:List Value} {w:World}
theorem JSt.it{pre:List FV}{S:Nat->Prop}{W W':World}{gv:Value}{good:List Np.Signed}(hG:G<B)(hE:E<B)(hX:X<=G)(hw:X<=w.heap.size)(hq:G<bq)(J2:E≠bq)(h:JSt known anchor at' dr LS X E G jl w pre S W gv good)(aH:ItO B (λk=>k=bq) S W W'):JSt known anchor at' dr LS X E G jl w pre S W' gv good:=by
 have ag:=(eQ.1 h.ce).1;have ei:=(eQ.1 h.out.h2).1;have kh:=(eQ.1 h.out.h3).1;refine⟨h.s2,h.s3,h.sg,h.so,h.sb,(aH.keep G (eQ.1 h.cg).1 (.inr h.sg)).trans h.cg,h.out.same (aH.keep _ ei (.inr h.s2)) (aH.keep _ kh (.inr h.s3)),(aH.keep E ag (.inl ⟨hE,J2⟩)).trans h.ce,?_,h.len,h.val,TE h.bel aH (by omega) (by omega) hw⟩;refine h.ow.leaves ax eB aK ⟨aH.os,aH.tape,aH.output,aH.size,λi hi hm=>⟨hm,aH.keep i hi ?_⟩⟩ (λg hg=>⟨aH.keep g (h.ow.lt g hg).2 (.inr (h.so g hg)),.inr (.inr (.inr (.inl hg)))⟩);exact .inr (Classical.byContradiction λhs=>hm (.inr (.inr (.inr (.inr hs)))))
theorem a6Z(hG:G<B)(hE:E<B)(hX:X<=G)(hw:X<=w.heap.size)(hq:G<bq)(J2:E≠bq):mF B (λk=>k=bq) (JI known anchor at' dr LS X E G jl w):=by
 rintro pre S W W' ⟨gv,good,h⟩ aH;exact⟨gv,good,h.it hG hE hX hw hq J2 aH⟩
theorem JSt.box{pre:List FV}{S:Nat->Prop}{W W1:World}{gv:Value}{good:List Np.Signed}{T:Nat}(h:JSt known anchor at' dr LS X E G jl w pre S W gv good)(hb:Below W.heap.size W W1)(hX:X<=W.heap.size)(hT:G<=T):JSt known anchor at' dr LS X E G jl w pre (λk=>S k\/k=T) W1 gv good:=by
 have ag:=(eQ.1 h.ce).1;have ei:=(eQ.1 h.out.h2).1;have kh:=(eQ.1 h.out.h3).1;refine⟨.inl h.s2,.inl h.s3,.inl h.sg,λg hg=>.inl (h.so g hg),λk e=>?_,(hb.block G (eQ.1 h.cg).1).trans h.cg,h.out.same (hb.block _ ei) (hb.block _ kh),(hb.block E ag).trans h.ce,?_,h.len,h.val,h.bel.trans (hb.mono hX)⟩
 ·rcases e with e | e
  ·exact h.sb k e
  ·right;right;omega
 ·refine h.ow.leaves ax eB aK ⟨hb.os,hb.tape,hb.output,hb.size,λi hi hm=>⟨λe=>hm ?_,hb.block i hi⟩⟩ (λg hg=>⟨hb.block g (h.ow.lt g hg).2,.inr (.inr (.inr (.inl hg)))⟩);rcases e with e | e | e | e | e
  ·exact .inl e
  ·exact .inr (.inl e)
  ·exact .inr (.inr (.inl e))
  ·exact .inr (.inr (.inr (.inl e)))
  ·exact .inr (.inr (.inr (.inr (λhs=>e (.inl hs)))))
theorem JSt.push{pre:List FV}{S:Nat->Prop}{W wX wY:World}{gv v8:Value}{good:List Np.Signed}{y:Np.Signed}{x:FV}(h:JSt known anchor at' dr LS X E G jl w pre S W gv good)(hb:Below W.heap.size W wX)
 (kj:em az 5 44 (G+1) (λk=>(JMs X G gv S k/\k<W.heap.size)\/v8.ownBlock=some k) wY v8 (good ++ [y])) (jk:wX.grownBy wY gv.ownBlock) (tt:v8.ownBlock=gv.ownBlock\/v8.ownBlock=some wX.heap.size)
 (Fy:∀ k,S k->k<W.heap.size) (hE:E<G) (hXE:X+1+1+1<E) (hl:(Np.mY known anchor at' dr y).1=1) (hx:x.2 = .set y) :
 ∃ S',RdStep S W (wY.setCell ⟨G,0,none⟩ v8)/\(∀ k,S' k->S k\/W.heap.size<=k)/\(∀ k,S' k->k<(wY.setCell ⟨G,0,none⟩ v8).heap.size)/\JI known anchor at' dr LS X E G jl w (pre ++ [x]) S' (wY.setCell ⟨G,0,none⟩ v8):=by
 have ag:=(eQ.1 h.ce).1;have ei:=Fy _ h.s2;have kh:=Fy _ h.s3;have hGW:=Fy _ h.sg;have Ly:=hb.size;have Tn:=jk.size;have hown:∀ k,gv.ownBlock=some k->G+1<=k:=λk e=>(h.ow.lt k e).1;have aB:(wY.setCell ⟨G,0,none⟩ v8).heap.size=wY.heap.size:=by simp[World.setCell]
 have cp:RdStep S W (wY.setCell ⟨G,0,none⟩ v8):=((RdStep.of_below hb).grown jk (λk e=>.inl (h.so k e))).setCell (p:=⟨G,0,none⟩) (.inl h.sg) _;have rU:∀ k,k<W.heap.size->k≠G->gv.ownBlock≠some k->(wY.setCell ⟨G,0,none⟩ v8).heap[k]?=W.heap[k]?:=λk h1 h2 h3=>
  (wQ _ _ _ _ (λe=>h2 e)).trans ((jk.block k (by omega) (λe=>h3 e.symm)).trans (hb.block k h1))
 have hnE:¬ S E:=λe=>by have:=h.sb E e;omega
 have hGY:wY.heap[G]?=some (.cells [gv].toArray 22 (0,0)):=(jk.block G (by omega) (λe=>by have:=hown G e.symm;omega)).trans ((hb.block G hGW).trans h.cg);refine⟨λk=>S k\/(W.heap.size<=k/\k<wY.heap.size),cp,λk e=>e.imp id (λe=>e.1),λk e=>by rw[aB];exact e.elim (λe=>by have:=Fy k e;omega) (λe=>e.2),v8,good ++ [y],?_⟩;refine⟨.inl h.s2,.inl h.s3,.inl h.sg,λg hg=>?_,λk e=>?_,by simp[World.setCell,Array.getElem?_modify,hGY],h.out.same (rU _ ei (by omega) (λe=>by have:=hown _ e;omega)) (rU _ kh (by omega) (λe=>by have:=hown _ e;omega)),(cp.keep E ag hnE).trans h.ce,?_,by simp[h.len],λrest hr=>?_,h.bel.trans (cp.below (by omega) (λk e=>by have:=h.sb k e;omega))⟩
 ·rcases tt with e | e
  ·exact .inl (h.so g (e ▸ hg))
  ·have h1:=(kj.lt g hg).2;rw[e] at hg;simp only[Option.some.injEq] at hg;exact .inr ⟨by omega,by omega⟩
 ·rcases e with e | e
  ·exact h.sb k e
  ·right;right;omega
 ·refine kj.leaves ax eB aK ⟨rfl,rfl,rfl,by rw[aB];exact bQ _,λi hi hm=>⟨λe=>hm ?_,wQ _ _ _ _ (λe=>hm (.inl ⟨.inl e,by have e':i=G:=e;omega⟩))⟩⟩ (λg hg=>⟨wQ _ _ _ _ (λe=>by have:=(kj.lt g hg).1;dsimp only at e;omega),.inr (.inr (.inr (.inl hg)))⟩);rcases e with e | e | e | e | e
  ·exact .inl ⟨.inl e,by omega⟩
  ·exact .inl ⟨.inr (.inl e),by omega⟩
  ·exact .inl ⟨.inr (.inr (.inl e)),by omega⟩
  ·exact .inr e
  ·have hn:¬ S i:=λhs=>e (.inl hs);refine .inl ⟨.inr (.inr (.inr (.inr hn))),Nat.lt_of_not_le λnD=>e (.inr ⟨nD,hi⟩)⟩
 ·rw[h.val (.set y::rest) (by rw[hr,List.map_append,List.append_assoc];simp[hx]),Np.t6,QbQ hl]
theorem a6J(hG:G<B)(hX:X<=G)(hw:X<=w.heap.size)(hq:G<bq)(c:Code):mF B (λk=>k=bq) (JX known anchor at' dr LS X w c):=by
 rintro pre S W W' ⟨hc,h2,h3,k,q,q2,cd,ho,hv,hs,hb⟩ aH;exact⟨hc,h2,h3,k,q,q2,cd,ho.same (aH.keep _ (eQ.1 ho.h2).1 (.inr h2)) (aH.keep _ (eQ.1 ho.h3).1 (.inr h3)),hv,hs,TE hb aH (by omega) (by omega) hw⟩
end
end
section
open Go.RowKit Go.Shelf
attribute [local go_sem] Oper.semAt_some
theorem biX(a:Np.Ans)(A:Option Addr)(N C:Nat)(cut:ByteArray)(ak:Int)(qw:a.kind=ak)(w:World)(hR:cr w w.heap.size)(he:oW w w.heap.size [.int .i64 ak,.slice A N C,.string cut] a) :
 Calls prog 108 #[.agg #[.int .i64 2,.int .i64 0,.int .i64 1,.int .i64 1,.string ⟨#[46]⟩,.int .i64 4,.int .i64 ak,.slice A N C,.string cut]] w λe w'=>e = .returned (.bool (Np.ib a))/\Below w.heap.size w w':=by
 obtain⟨X,hX⟩:=aaK w.heap.size;obtain⟨w1,ah⟩:=aaK (w.alloc (.cells #[.int .i64 2,.int .i64 0,.int .i64 1,.int .i64 1,.string ⟨#[46]⟩,.int .i64 4,.int .i64 ak,.slice A N C,.string cut] 152));have hb:Below w.heap.size w w1:=by rw[<-ah];exact aG _ _
 have bG:w1.heap.size=X+1:=by rw[<-ah,<-hX];simp
 have p:=de (r:=[.int .i64 2,.int .i64 0,.int .i64 1,.int .i64 1,.string ⟨#[46]⟩,.int .i64 4,.int .i64 ak,.slice A N C,.string cut]) hX ah;have k0:=p 0 _ rfl;have k1:=p 1 _ rfl;have k2:=p 2 _ rfl;have k3:=p 3 _ rfl;have k4:=p 4 _ rfl;have k5:=p 5 _ rfl;have k6:=p 6 _ rfl;have k7:=p 7 _ rfl;have k8:=p 8 _ rfl;have ay:=jq hb;have HR:=jq ((hR.keep hb).more hb.size);have HE:=jq (DF _ _ _ _ _ (DE _ _ _ _ _ he hb) hb.size);have HP:=jq p;have aRJ:(⟨#[46]⟩:ByteArray).size<=140737488355328:=by decide
 clear hb hR he p;go_enter func108,ntmps108;go_wp2_with fail;clear ah;go_wp2_with fail;refine (wS 0 0 65535 w1).mono ?_;rintro e w2 ⟨rfl,ar⟩;subst w2;rw[show (decide ((0:Int)<=0)&&decide ((0:Int)<=65535))=true by decide];go_wp2_with fail;refine (wS 1 1 1000000 w1).mono ?_;rintro e w2 ⟨rfl,ar⟩;subst w2;rw[show (decide ((1:Int)<=1)&&decide ((1:Int)<=1000000))=true by decide];go_wp2_with fail;refine (wS 1 1 1000000 w1).mono ?_;rintro e w2 ⟨rfl,ar⟩;subst w2;rw[show (decide ((1:Int)<=1)&&decide ((1:Int)<=1000000))=true by decide];go_wp2_with fail;refine (nameValid_any ⟨#[46]⟩ aRJ w1).mono ?_;rintro e w2 ⟨rfl,ae⟩;rw[show Np.ai ((⟨#[46]⟩:ByteArray)).data.toList=true by decide];have am:=aaZ ay ae;have fO:=jq ((HR.out.keep ae).more ae.size);have Ib:=jq (DF _ _ _ _ _ (DE _ _ _ _ _ HE.out ae) ae.size);clear k0 k1 k2 k3 k4 k5 k6 k7 k8;have k0:=aaQ ae (HP.out 0 _ rfl);have k5:=aaQ ae (HP.out 5 _ rfl);have k6:=aaQ ae (HP.out 6 _ rfl);have k7:=aaQ ae (HP.out 7 _ rfl);have k8:=aaQ ae (HP.out 8 _ rfl);clear ae;go_wp2_with fail;refine (wS 4 1 8 w2).mono ?_;rintro e w3 ⟨rfl,bT⟩;subst w3;rw[show (decide ((1:Int)<=4)&&decide ((4:Int)<=8))=true by decide];go_wp2_with fail;refine (biY a [.int .i64 ak,.slice A N C,.string cut] w2 fO.out Ib.out).mono ?_;rintro e w3 ⟨rfl,aq⟩;have aw:=jq (am.out.trans (aq.mono am.out.size));clear aq;go_wp2_with fail;go_ret;exact⟨rfl,aw.out⟩
theorem bJY(a:Np.Ans)(A:Option Addr)(N C:Nat)(cut:ByteArray)(ak:Int)(qw:a.kind=ak)(w:World)(hR:cr w w.heap.size)(he:oW w w.heap.size [.int .i64 ak,.slice A N C,.string cut] a) :
 Calls prog 43 #[.agg #[.int .i64 ak,.slice A N C,.string cut]] w λe w'=>e = .returned (.bool (Np.ib a))/\Below w.heap.size w w':=by
 obtain⟨X,hX⟩:=aaK w.heap.size;obtain⟨w1,ah⟩:=aaK (w.alloc (.cells #[.int .i64 ak,.slice A N C,.string cut] 29));obtain⟨w2,ar⟩:=aaK (w1.alloc (.cells #[.string ⟨#[46]⟩,.int .i64 4] 27));have av:Below w.heap.size w w1:=by rw[<-ah];exact aG _ _
 have bG:w1.heap.size=X+1:=by rw[<-ah,<-hX];simp
 have ae:Below w1.heap.size w1 w2:=by rw[<-ar];exact aG _ _
 have p:=de (r:=[.int .i64 ak,.slice A N C,.string cut]) hX ah;have k0:=aaQ ae (p 0 _ rfl);have k1:=aaQ ae (p 1 _ rfl);have k2:=aaQ ae (p 2 _ rfl);have q:=de (r:=[.string ⟨#[46]⟩,.int .i64 4]) bG ar;have q0:=q 0 _ rfl;have q1:=q 1 _ rfl;have hb:=av.trans (ae.abQ);have HB:=jq hb;have HR:=jq ((hR.keep hb).more hb.size);have HE:=jq (DF _ _ _ _ _ (DE _ _ _ _ _ he hb) hb.size);clear av ae hR he p q hb;go_enter func43,ntmps43;go_wp2_with fail;clear ah;go_wp2_with fail;clear ar;go_wp2_with fail;refine (biX a A N C cut ak qw w2 HR.out HE.out).mono ?_;rintro e w3 ⟨rfl,aq⟩;have aw:=jq (HB.out.trans (aq.mono HB.out.size));clear aq;go_wp2_with fail;go_ret;exact⟨rfl,aw.out⟩
theorem UJ(Q:Nat)(qn:ByteArray)(qt:Int)(dV:qn.size<=140737488355328)(w:World)(hq:w.heap[Q]?=some (.cells [Value.string qn,.int .i64 qt].toArray 27 (0,0))):kL (.func (.func 109) #[] #[.pointer (some ⟨Q,0,none⟩)]) (λx=>decide (x.type=8)||(decide (x.type=4)&&Np.bA qn.data.toList x.name)) w:=
 ⟨_,_,rfl,avQ,λW e x hW he=>btZ Q qn qt dV W ((hW.block Q (eQ.1 hq).1).trans hq) x e he⟩
theorem buX(Q:Nat)(qn:ByteArray)(qt:Int)(dV:qn.size<=140737488355328)(w:World)(hq:w.heap[Q]?=some (.cells [Value.string qn,.int .i64 qt].toArray 27 (0,0))):kL (.func (.func 110) #[] #[.pointer (some ⟨Q,0,none⟩)]) (λx=>x.name == qn.data.toList&&decide (x.type=qt)) w:=
 ⟨_,_,rfl,avZ,λW e x hW he=>btJ Q qn qt dV W ((hW.block Q (eQ.1 hq).1).trans hq) x e he⟩
theorem buY(Q:Nat)(qn:ByteArray)(qt:Int)(dV:qn.size<=140737488355328)(w:World)(hq:w.heap[Q]?=some (.cells [Value.string qn,.int .i64 qt].toArray 27 (0,0))):kL (.func (.func 111) #[] #[.pointer (some ⟨Q,0,none⟩)]) (λx=>decide (x.type=8)||(decide (x.type=qt)&&Np.ku x.name qn.data.toList)) w:=
 ⟨_,_,rfl,avJ,λW e x hW he=>btK Q qn qt dV W ((hW.block Q (eQ.1 hq).1).trans hq) x e he⟩
theorem bvQ(Q:Nat)(qn:ByteArray)(qt:Int)(dV:qn.size<=140737488355328)(w:World)(hq:w.heap[Q]?=some (.cells [Value.string qn,.int .i64 qt].toArray 27 (0,0))):kL (.func (.func 113) #[] #[.pointer (some ⟨Q,0,none⟩)]) (λx=>decide (x.type=8)||(decide (x.type=3)&&(x.name == qn.data.toList||Np.ku x.name qn.data.toList))) w:=
 ⟨_,_,rfl,avK,λW e x hW he=>btX Q qn qt dV W ((hW.block Q (eQ.1 hq).1).trans hq) x e he⟩
theorem bvZ(w:World):kL (.func (.func 115) #[] #[]) (λ_=>false) w:=⟨_,#[],rfl,avX,λW e x _ he=>btY W x e he⟩
theorem kL.form{rv:Value}{p:Np.DSet->Bool}{w:World}(h:kL rv p w):∃ f cap,rv = .func (.func f) #[] cap:=by obtain⟨f,cap,h,_⟩:=h;exact⟨f,cap,h⟩
theorem kL.same{rv:Value}{p p':Np.DSet->Bool}{w:World}(h:kL rv p w)(hp:∀ x,p x=p' x):kL rv p' w:=(funext hp:p=p') ▸ h
theorem buJ(z qn:ByteArray)(hz:z.size<=140737488355328)(dV:qn.size<=140737488355328)(qt:Int)(a:Np.Ans)(A:Option Addr)(N C:Nat)(cut:ByteArray)(ak:Int)(qw:a.kind=ak)(Cd:1<=ak/\ak<=7)(w:World)(he:oW w w.heap.size [.int .i64 ak,.slice A N C,.string cut] a)(nK:∀ y∈a.sets,y.set.data.length<=100000) :
 Calls prog 45 #[.string z,.agg #[.string qn,.int .i64 qt],.agg #[.int .i64 ak,.slice A N C,.string cut]] w λe w'=>(∃ rv,e = .returned rv/\kL rv (Np.fN z.data.toList qn.data.toList qt a) w')/\Below w.heap.size w w':=by
 obtain⟨X,hX⟩:=aaK w.heap.size;obtain⟨w1,ah⟩:=aaK (w.alloc (.cells #[.string qn,.int .i64 qt] 27));obtain⟨w2,ar⟩:=aaK (w1.alloc (.cells #[.int .i64 ak,.slice A N C,.string cut] 29));have z1:w1.heap.size=X+1:=by rw[<-ah,<-hX];simp
 have z2:w2.heap.size=X+1+1:=by rw[<-ar];simp[z1]
 have av:Below w.heap.size w w1:=by rw[<-ah];exact aG _ _
 have ae:Below w1.heap.size w1 w2:=by rw[<-ar];exact aG _ _
 have hb:=av.trans (ae.abQ);have am:=jq hb;have gz:Hid (w2.heap[X]?=some (.cells [Value.string qn,.int .i64 qt].toArray 27 (0,0))):=jq ((ae.block X (by omega)).trans (by rw[<-ah,<-hX];exact heap_alloc_new _ _));have jS:Hid (w2.heap[X+1]?=some (.cells [Value.int .i64 ak,.slice A N C,.string cut].toArray 29 (0,0))):=jq (by rw[<-ar,<-z1];exact heap_alloc_new _ _);have Ib:=jq (DF _ _ _ _ _ (DE _ _ _ _ _ he hb) hb.size);have q0:=af _ gz.out 0 _ rfl;have q1:=af _ gz.out 1 _ rfl;have d0:=af _ jS.out 0 _ rfl;have d1:=af _ jS.out 1 _ rfl;have d2:=af _ jS.out 2 _ rfl;have HX:=jq hX;have ry:=jq nK;have pI:=jq qw;have Hc:=jq Cd;have bL:X+1+1<=w2.heap.size:=by omega
 clear av ae hb he nK qw Cd;go_enter func45,ntmps45;go_wp2_with fail;clear ah ar;go_wp2_with fail;refine (brQ z qn hz dV qt a [.int .i64 ak,.slice A N C,.string cut] w2 Ib.out ry.out).mono ?_;rintro e w3 ⟨⟨rv,rfl,De⟩,aq⟩;have uy:=jq De;obtain⟨rf,rc,rfl⟩:=De.form;have aw:=jq (am.out.trans (aq.mono am.out.size));have Hh:=jq aq;have mh:X+1+1<=w3.heap.size:=by have:=aq.size;omega
 have sM:=jq ((aq.block (X+1) (by omega)).trans jS.out);have iY:=jq ((aq.block X (by omega)).trans gz.out);clear De aq q0 q1 d0 d1 d2 z1 z2;obtain⟨AR,hAR⟩:=aaK w3.heap.size;obtain⟨w4,di⟩:=aaK (w3.alloc (.cells #[.nilFunc,.func (.func 110) #[] #[.pointer (some ⟨X,0,none⟩)],.func (.func 111) #[] #[.pointer (some ⟨X,0,none⟩)],.func (.func 113) #[] #[.pointer (some ⟨X,0,none⟩)],.func (.func rf) #[] rc,.func (.func 109) #[] #[.pointer (some ⟨X,0,none⟩)],.func (.func 109) #[] #[.pointer (some ⟨X,0,none⟩)],.func (.func 115) #[] #[]] 153));have aE:Below w3.heap.size w3 w4:=by rw[<-di];exact aG _ _
 have z4:w3.heap.size<w4.heap.size:=by rw[<-di];simp
 have p4:=de (r:=[.nilFunc,.func (.func 110) #[] #[.pointer (some ⟨X,0,none⟩)],.func (.func 111) #[] #[.pointer (some ⟨X,0,none⟩)],.func (.func 113) #[] #[.pointer (some ⟨X,0,none⟩)],.func (.func rf) #[] rc,.func (.func 109) #[] #[.pointer (some ⟨X,0,none⟩)],.func (.func 109) #[] #[.pointer (some ⟨X,0,none⟩)],.func (.func 115) #[] #[]]) hAR di;have uo:=jq ((aE.block (X+1) (by omega)).trans sM.out);have mz:=jq ((aE.block X (by omega)).trans iY.out);have aX:=jq (aw.out.trans (aE.mono aw.out.size));have YO:=jq (uy.out.keep aE);have sR:=jq p4;have d0:=af _ uo.out 0 _ rfl;clear aE p4 z4;have hcs:ak=1\/ak=2\/ak=3\/ak=4\/ak=5\/ak=6\/ak=7:=by have:=Hc.out;omega
 rcases hcs with rfl | rfl | rfl | rfl | rfl | rfl | rfl
 ·have g1:=sR.out 1 _ rfl;go_wp2_with fail;go_ret;exact⟨⟨_,rfl,(buX X qn qt dV _ mz.out).same (λx=>by unfold Np.fN;rw[pI.out];rfl)⟩,aX.out⟩
 ·have g2:=sR.out 2 _ rfl;go_wp2_with fail;go_ret;exact⟨⟨_,rfl,(buY X qn qt dV _ mz.out).same (λx=>by unfold Np.fN;rw[pI.out];rfl)⟩,aX.out⟩
 ·have g3:=sR.out 3 _ rfl;go_wp2_with fail;go_ret;exact⟨⟨_,rfl,(bvQ X qn qt dV _ mz.out).same (λx=>by unfold Np.fN;rw[pI.out];rfl)⟩,aX.out⟩
 ·have g4:=sR.out 4 _ rfl;go_wp2_with fail;go_ret;exact⟨⟨_,rfl,(YO.out).same (λx=>by unfold Np.fN;rw[pI.out];rfl)⟩,aX.out⟩
 ·have g5:=sR.out 5 _ rfl;go_wp2_with fail;go_ret;exact⟨⟨_,rfl,(UJ X qn qt dV _ mz.out).same (λx=>by unfold Np.fN;rw[pI.out];rfl)⟩,aX.out⟩
 ·have g6:=sR.out 6 _ rfl;go_wp2_with fail;go_ret;exact⟨⟨_,rfl,(UJ X qn qt dV _ mz.out).same (λx=>by unfold Np.fN;rw[pI.out];rfl)⟩,aX.out⟩
 ·have g7:=sR.out 7 _ rfl;go_wp2_with fail;go_ret;exact⟨⟨_,rfl,(bvZ _).same (λx=>by unfold Np.fN;rw[pI.out];rfl)⟩,aX.out⟩
def MN(p:List Np.Signed×Int)(w:World)(e:Ending)(w':World):Prop:=∃ (A:Option Addr) (n c:Nat),e = .returned (.tuple #[.slice A n c,.int .i64 p.2])/\SlR az 5 w' w'.heap.size (.slice A n c) p.1/\Below w.heap.size w w'
theorem Np.Fi{zone qn:List UInt8}{qt:Int}{a:Np.Ans}(h:Np.uf zone=false\/(Np.ai qn&&(decide (1<=qt)&&decide (qt<=8)))=false\/Np.ib a=false):Np.nt zone qn qt a=([],1):=by
 unfold Np.nt;rw[QbQ];rcases h with h | h | h
 ·exact .inl h
 ·exact .inr (.inl (Np.eX λq=>by
   have h5:=q.1;have h6:=q.2;simp only[h5,h6,decide_true,Bool.and_self] at h
   cases h))
 ·exact .inr (.inr h)
theorem Np.JL{zone qn:List UInt8}{qt:Int}{a:Np.Ans}(h1:Np.uf zone=true)(h2:(Np.ai qn&&(decide (1<=qt)&&decide (qt<=8)))=true)(h3:Np.ib a=true):Np.nt zone qn qt a=if Np.bA qn zone=false then ([],0) else (a.sets.filter (Np.Ax zone qn qt a),0):=by
 simp only[Bool.and_eq_true,Qa] at h2;unfold Np.nt;rw[Qc];rintro (h | h | h)
 ·rw[h1] at h;cases h
 ·rw[Np.gY ⟨h2.1,h2.2.1,h2.2.2⟩] at h;cases h
 ·rw[h3] at h;cases h
theorem Fj(z qn:ByteArray)(hz:z.size<=140737488355328)(dV:qn.size<=140737488355328)(qt:Int)(a:Np.Ans)(e:List Value)(w:World)(hR:cr w w.heap.size)(he:oW w w.heap.size e a)(nK:∀ y∈a.sets,y.set.data.length<=100000/\y.sigs.length<=100000) :
 Calls prog 13 #[.string z,.agg #[.string qn,.int .i64 qt],.agg e.toArray] w (MN (Np.nt z.data.toList qn.data.toList qt a) w):=by
 have HE:=jq he;obtain⟨A,N,C,cut,rfl,hN,_,Fv,hv,hc,hcs⟩:=he.form;obtain⟨X,hX⟩:=aaK w.heap.size;obtain⟨ak,qw⟩:=aaK a.kind;rw[qw] at HE |-;obtain⟨w1,ah⟩:=aaK (w.alloc (.cells #[.string qn,.int .i64 qt] 27));obtain⟨w2,ar⟩:=aaK (w1.alloc (.cells #[.int .i64 ak,.slice A N C,.string cut] 29));have z1:w1.heap.size=X+1:=by rw[<-ah,<-hX];simp
 have z2:w2.heap.size=X+1+1:=by rw[<-ar];simp[z1]
 have av:Below X w w1:=by rw[<-ah,<-hX];exact aG _ _
 have ae:Below w1.heap.size w1 w2:=by rw[<-ar];exact aG _ _
 have am:=jq (av.trans (ae.abQ));have gz:Hid (w2.heap[X]?=some (.cells [Value.string qn,.int .i64 qt].toArray 27 (0,0))):=jq ((ae.block X (by omega)).trans (by rw[<-ah,<-hX];exact heap_alloc_new _ _));have jS:Hid (w2.heap[X+1]?=some (.cells [Value.int .i64 ak,.slice A N C,.string cut].toArray 29 (0,0))):=jq (by rw[<-ar,<-z1];exact heap_alloc_new _ _);rw[hX] at hv hR HE;have HV:=jq hv;have HN:=jq hN;have HX:=jq hX;have pI:=jq qw;have ry:=jq nK;have eS:=jq hR;have IP:Hid (∀ W,Below X w W->X<=W.heap.size->cr W W.heap.size/\oW W W.heap.size [.int .i64 ak,.slice A N C,.string cut] a):=jq (λW hW hz=>⟨(eS.out.keep hW).more hz,DF _ _ _ _ _ (DE _ _ _ _ _ HE.out hW) hz⟩);have bL:X+1+1<=w2.heap.size:=by omega
 obtain⟨RES,gp⟩:=aaK (Np.nt z.data.toList qn.data.toList qt a);rw[gp];have cR:=jq gp;have pL:Hid (∀ W,Below X w W->RES=([],1)->MN RES w (.returned (.tuple #[.slice none 0 0,.int .i64 1])) W):=jq (λW hW hr=>by rw[hr];exact⟨none,0,0,rfl,jO _ _,by rw[HX.out];exact hW⟩);clear av ae hv hN hc nK he qw hR gp;go_enter func13,ntmps13;go_wp2_with fail;clear ah ar;go_wp2_with fail;refine (bRQ z hz w2).mono ?_;rintro e w3 ⟨rfl,aq⟩;have aw:=aaZ am aq;have iY:=jq ((aq.block X (by omega)).trans gz.out);have sM:=jq ((aq.block (X+1) (by omega)).trans jS.out);have mh:X+1+1<=w3.heap.size:=by have:=aq.size;omega
 clear aq z1 z2;obtain⟨c1,aR⟩:=aaK (Np.uf z.data.toList);rw[aR];have cN:=jq aR;clear aR
 cases c1 with
 | false=>
  go_wp2_with fail;go_ret2;exact pL.out _ aw.out (by rw[<-cR.out,Np.Fi (.inl cN.out)])
 | true=>
 have q0:=af _ iY.out 0 _ rfl;have q1:=af _ iY.out 1 _ rfl;go_wp2_with fail;refine (Vi qn dV qt w3).mono ?_;rintro e w4 ⟨rfl,aE⟩;have aX:=aaZ aw aE;have mz:=jq ((aE.block X (by omega)).trans iY.out);have uo:=jq ((aE.block (X+1) (by omega)).trans sM.out);have pw:X+1+1<=w4.heap.size:=by have:=aE.size;omega
 clear aE q0 q1;obtain⟨c2,cH⟩:=aaK (Np.ai qn.data.toList&&(decide (1<=qt)&&decide (qt<=8)));rw[cH];have dH:=jq cH;clear cH
 cases c2 with
 | false=>
  go_wp2_with fail;go_ret2;exact pL.out _ aX.out (by rw[<-cR.out,Np.Fi (.inr (.inl dH.out))])
 | true=>
 have d0:=af _ uo.out 0 _ rfl;have d1:=af _ uo.out 1 _ rfl;have d2:=af _ uo.out 2 _ rfl;go_wp2_with fail;refine (bJY a A N C cut ak pI.out w4 (IP.out w4 aX.out (by omega)).1 (IP.out w4 aX.out (by omega)).2).mono ?_;rintro e w5 ⟨rfl,aO⟩;have bx:=aaZ aX aO;have oT:=jq ((aO.block X (by omega)).trans mz.out);have WU:=jq ((aO.block (X+1) (by omega)).trans uo.out);have qU:X+1+1<=w5.heap.size:=by have:=aO.size;omega
 clear aO d0 d1 d2;obtain⟨c3,nB⟩:=aaK (Np.ib a);rw[nB];have gj:=jq nB;clear nB
 cases c3 with
 | false=>
  go_wp2_with fail;go_ret2;exact pL.out _ bx.out (by rw[<-cR.out,Np.Fi (.inr (.inr gj.out))])
 | true=>
 have Of:Hid (RES=if Np.bA qn.data.toList z.data.toList=false then ([],0) else (a.sets.filter (Np.Ax z.data.toList qn.data.toList qt a),0)):=jq (by rw[<-cR.out,Np.JL cN.out dH.out gj.out]);have Cd:1<=ak/\ak<=7:=by
  have h:=gj.out;unfold Np.ib at h;simp only[Bool.and_eq_true,Qa] at h;rw[pI.out] at h;exact h.1
 have Hc:=jq Cd;have q0:=af _ oT.out 0 _ rfl;clear Cd pL;go_wp2_with fail;refine (yx qn z dV hz w5).mono ?_;rintro e w6 ⟨rfl,bE⟩;have bH:=aaZ bx bE;have rt:=jq ((bE.block X (by omega)).trans oT.out);have sO:=jq ((bE.block (X+1) (by omega)).trans WU.out);have px:X+1+1<=w6.heap.size:=by have:=bE.size;omega
 clear bE q0;obtain⟨c4,uO⟩:=aaK (Np.bA qn.data.toList z.data.toList);rw[uO];have AY:=jq uO;clear uO
 cases c4 with
 | false=>
  go_wp2_with fail;go_ret2;rw[Of.out,QbQ AY.out];exact⟨none,0,0,rfl,jO _ _,by rw[HX.out];exact bH.out⟩
 | true=>
 have Og:Hid (RES=(a.sets.filter (Np.Ax z.data.toList qn.data.toList qt a),0)):=jq (by rw[Of.out,Qc (by rw[AY.out];decide)]);have q0:=af _ rt.out 0 _ rfl;have q1:=af _ rt.out 1 _ rfl;have d0:=af _ sO.out 0 _ rfl;have d1:=af _ sO.out 1 _ rfl;have d2:=af _ sO.out 2 _ rfl;go_wp2_with fail;refine (buJ z qn hz dV qt a A N C cut ak pI.out Hc.out w6 (IP.out w6 bH.out (by omega)).2 (λy hy=>(ry.out y hy).1)).mono ?_;rintro e w7 ⟨⟨rv,rfl,De⟩,bF⟩;obtain⟨rf,rc,rfl,eg,ST⟩:=De;have za:=jq ST;have cw:=aaZ bH bF;have Ek:=jq ((bF.block (X+1) (by omega)).trans sO.out);have qV:X+1+1<=w7.heap.size:=by have:=bF.size;omega
 clear bF q0 q1 d0 d1 d2 ST;obtain⟨p,hp⟩:=aaK (Np.Ax z.data.toList qn.data.toList qt a);rw[hp] at Og;have HP:Hid (∀ s,p s=(Np.bA s.set.name z.data.toList&&Np.fN z.data.toList qn.data.toList qt a s.set)):=jq (λs=>by rw[<-hp];rfl);obtain⟨may,Sp⟩:=aaK (Np.fN z.data.toList qn.data.toList qt a);rw[Sp] at za HP;clear hp Sp;have d1:=af _ Ek.out 1 _ rfl;obtain⟨B,hB⟩:=aaK w7.heap.size;obtain⟨i0,iO,eu,a0Y,a1Q⟩:=info_parts Tryz.infoSgn5;have bWQ:N<=40:=by
  have h:=gj.out;unfold Np.ib at h;simp only[Bool.and_eq_true,Qa] at h;rw[HN.out] at h;exact h.2.1
 go_wp2_with fail;go_loopw [9,37] (λlv i wr=>∃ (k m:Nat) (oA:Option Addr) (oc:Nat) (M:Nat->Prop),k<=N/\i = .int .i64 k/\lv = .slice oA m oc/\m<=k/\Hid (((a.sets.take k).filter p).length=m)/\Hid (∀ j,M j->B<=j/\j<wr.heap.size)/\Hid (em az 5 44 B M wr (.slice oA m oc) ((a.sets.take k).filter p))/\Hid (Below B w7 wr)) (λ_ i _=>N - (intOf i).toNat)
 case atStart=>exact⟨0,0,none,0,λ_=>False,jQ _,rfl,rfl,bQ _,jq rfl,jq (λj h=>h.elim),jq (em.nil _),jq (vQ _ _)⟩
 case round=>
  obtain⟨k,m,oA,oc,M,hk,rfl,rfl,fd,oS,nW,HO,ed⟩:=hrel;obtain⟨ws,rfl⟩:=aaX wr;have gd:B<=ws.heap.size:=by have:=ed.out.size;omega
  have bN:=aaZ cw ed.out;by_cases ag:k<N
  ·obtain⟨y,pu⟩:∃ y,a.sets[k]?=some y:=⟨_,aQ (by rw[HN.out];exact ag)⟩;obtain⟨b,o,c2,s,dv,sv,hA,cO,_,aP,dM,aV,aZ,e0,e1,e2,e3,e4⟩:=dN (HV.out.keep ax bN.out) pu;simp only[Value.slice.injEq] at hA;obtain⟨rfl,-,rfl⟩:=hA;obtain⟨dA,dn,dc,rfl,jC,_,xB⟩:=cE aV;obtain⟨gA,gn,gc,rfl,mO,_,_⟩:=cE aZ;have jU:Hid ((a.sets.take (k+1)).filter p=(a.sets.take k).filter p++if p y then [y] else []):=jq (by
    obtain⟨hl,he⟩:=cQ.1 pu;rw[Ca hl,he])
   have oe:=jq (And.intro aP (And.intro dM (And.intro jC mO)));have PC:=jq (ry.out y (gQ pu));have df:(0:Int)<=(k:Int):=by omega
   have dg:(k:Int)<(N:Int):=by omega
   obtain⟨E,hE⟩:=aaK ws.heap.size;obtain⟨w8,dX⟩:=aaK (ws.alloc (.cells #[.string s,.int .i64 y.set.type,.int .i64 y.set.life,.slice dA dn dc,.slice gA gn gc] 44));have cA:Below ws.heap.size ws w8:=by rw[<-dX];exact aG _ _
   have z8:w8.heap.size=E+1:=by rw[<-dX,<-hE];simp
   have p8:=de (r:=[.string s,.int .i64 y.set.type,.int .i64 y.set.life,.slice dA dn dc,.slice gA gn gc]) hE dX;have iX:Hid (∀ W,Below X w W->X<=W.heap.size->SlR cm 3 W W.heap.size (.slice dA dn dc) y.set.data/\SlR en 6 W W.heap.size (.slice gA gn gc) y.sigs):=jq (λW hW hz=>⟨((DO aV bN.out (λ_ _ h=>h)).keep bM hW).more bY hz,((DO aZ bN.out (λ_ _ h=>h)).keep dG hW).more el hz⟩);have yX:=jq p8;have dZ:=jq cA;have BQ:=jq z8;have Nw:=jq hE;have v0:=p8 0 _ rfl;have v1:=p8 1 _ rfl;have v2:=p8 2 _ rfl;have v3:=p8 3 _ rfl;have v4:=p8 4 _ rfl;clear pu aP aV aZ jC mO cA p8;go_wp2_with fail;clear dX e0 e1 e2 e3 e4;go_wp2_with fail;refine (yx s z oe.out.2.1 hz w8).mono ?_;rintro e w9 ⟨rfl,cW⟩;have eJ:=jq (dZ.out.trans (cW.mono (by have:=BQ.out;omega)));have BB:Hid (∀ j u,[Value.string s,.int .i64 y.set.type,.int .i64 y.set.life,.slice dA dn dc,.slice gA gn gc][j]?=some u->w9.cell? ⟨E,j,none⟩=some u):=jq (λj u hj=>(cW.cell (p:=⟨E,j,none⟩) (by have:=BQ.out;dsimp only;omega)).trans (yX.out j u hj));have Lw:E+1<=w9.heap.size:=by have:=cW.size;have:=BQ.out;omega
   clear cW v0 v1 v2 v3 v4 z8;obtain⟨c5,FN⟩:=aaK (Np.bA s.data.toList z.data.toList);rw[FN];rw[oe.out.1] at FN;have Ee:=jq FN;clear FN
   cases c5 with
   | false=>
    have uu:Hid (p y=false):=jq (by rw[HP.out,Ee.out];rfl);go_wp2_with fail;go_roundw
    case rel=>exact⟨k+1,m,oA,oc,M,by omega,by go_num,rfl,by omega,jq (by rw[jU.out,Qc (by rw[uu.out];decide),List.append_nil];exact oS.out),jq (λj hj=>by have h1:=nW.out j hj;have h2:=eJ.out.size;omega),jq (by rw[jU.out,Qc (by rw[uu.out];decide),List.append_nil];exact HO.out.keep ax eB aK eJ.out),aaZ ed eJ.out⟩
    ·simp[intOf]<;>omega
   | true=>
   have v0:=BB.out 0 _ rfl;have v1:=BB.out 1 _ rfl;have v2:=BB.out 2 _ rfl;have v3:=BB.out 3 _ rfl;have rB:=aaZ bN eJ.out;have hX9:X<=w9.heap.size:=by omega
   have aaY:Hid (Below w7.heap.size w7 w9):=jq (by rw[hB];exact ed.out.trans (eJ.out.abQ));have hc:=za.out w9 [.string s,.int .i64 y.set.type,.int .i64 y.set.life,.slice dA dn dc] y.set aaY.out ⟨s,_,oe.out.1,oe.out.2.1,(iX.out w9 rB.out hX9).1,rfl⟩;have mw:=jq hc;clear hc;go_wp2_with fail;refine mw.out.mono ?_;rintro e wa ⟨rfl,dE⟩;have eK:=aaZ eJ dE;have jK:E+1<=wa.heap.size:=by have:=dE.size;omega
   have BC:Hid (∀ j u,[Value.string s,.int .i64 y.set.type,.int .i64 y.set.life,.slice dA dn dc,.slice gA gn gc][j]?=some u->wa.cell? ⟨E,j,none⟩=some u):=jq (λj u hj=>aaQ dE (BB.out j u hj));clear dE v0 v1 v2 v3;obtain⟨c6,Ko⟩:=aaK (may y.set);rw[Ko];have Ef:=jq Ko;clear Ko
   cases c6 with
   | false=>
    have uu:Hid (p y=false):=jq (by rw[HP.out,Ef.out];simp);go_wp2_with fail;go_roundw
    case rel=>exact⟨k+1,m,oA,oc,M,by omega,by go_num,rfl,by omega,jq (by rw[jU.out,Qc (by rw[uu.out];decide),List.append_nil];exact oS.out),jq (λj hj=>by have h1:=nW.out j hj;have h2:=eK.out.size;omega),jq (by rw[jU.out,Qc (by rw[uu.out];decide),List.append_nil];exact HO.out.keep ax eB aK eK.out),aaZ ed eK.out⟩
    ·simp[intOf]<;>omega
   | true=>
   have uu:Hid (p y=true):=jq (by rw[HP.out,Ee.out,Ef.out];rfl);have pY:=aaZ bN eK.out;have RA:X<=wa.heap.size:=by omega
   have v0:=BC.out 0 _ rfl;have v1:=BC.out 1 _ rfl;have v2:=BC.out 2 _ rfl;have v3:=BC.out 3 _ rfl;have v4:=BC.out 4 _ rfl;go_wp2_with fail;refine (P6 s y.set.type y.set.life _ y.set.data _ y.sigs (by have:=PC.out.1;omega) (by have:=PC.out.2;omega) wa (iX.out wa pY.out RA).1 (iX.out wa pY.out RA).2).mono ?_;rintro e wC ⟨dv2,gv2,rfl,ke,oq⟩;have Tl:=oq.size;have pN:Hid (G5 wa.heap.size wC dv2 gv2 y.set.data y.sigs):=jq ke;obtain⟨dA2,dc2,rfl,_,_⟩:=ba ((ke (λ_=>False) (λ_ e=>e.elim)).1);obtain⟨gA2,gc2,rfl,_,_⟩:=ba ((ke (λ_=>False) (λ_ e=>e.elim)).2);rw[oe.out.2.2.1,oe.out.2.2.2] at pN |-;have jP:=aaZ eK oq;clear ke oq v0 v1 v2 v3 v4;obtain⟨wX,xW⟩:=aaK (wC.alloc (.cells #[.string s,.int .i64 y.set.type,.int .i64 y.set.life,.slice dA2 dn dc2,.slice gA2 gn gc2] 44));have kT:Below wC.heap.size wC wX:=by rw[<-xW];exact aG _ _
   have CB:fm wX wC.heap.size 0 [.string s,.int .i64 y.set.type,.int .i64 y.set.life,.slice dA2 dn dc2,.slice gA2 gn gc2]:=E7 (w:=wC) _ _ rfl xW.symm;have Ly:=kT.size;have A9:=jq CB;have g8:=aaZ jP kT;have BA:=jq (HO.out.keep ax eB aK g8.out);have mA:Hid (az (cU wX M) wX.heap.size [.string s,.int .i64 y.set.type,.int .i64 y.set.life,.slice dA2 dn dc2,.slice gA2 gn gc2] y):=jq (by
    have h1:=pN.out M (λj hj=>by have:=nW.out j hj;omega);have h2:=(Leaves'.of_below (M:=M) kT).slr bM m8 bY h1.1;have h3:=(Leaves'.of_below (M:=M) kT).slr dG oJ el h1.2;exact⟨s,_,_,oe.out.1,oe.out.2.1,h2,h3,rfl⟩)
   clear kT CB;go_wp2_with (at_builtin;refine Vu (R:=az) (M:=M) wX rfl _ _ 22 rfl B 44 i0 (.agg #[.string ⟨#[]⟩,.int .i64 0,.int .i64 0,.slice none 0 0,.slice none 0 0]) 80 underlying22 iO eu a0Y a1Q rfl (by decide) (.slice oA m oc) _ rfl BA.out (some ⟨wC.heap.size,0,none⟩) 1 [y] rfl (L7 rfl mA.out A9.out) L8 (by rw[oS.out];simp[maxLen];omega) (by rw[oS.out];simp;omega) (by omega) ax eB aK ?_;intro v8 wY kj jk tt;obtain⟨A8,c8,rfl⟩:=kj.formN (n:=m+1) (by rw[List.length_append,oS.out];rfl);have H8:=jq (And.intro kj (And.intro jk tt));clear kj jk tt);go_roundw
   case rel=>
    have Tn:=H8.out.2.1.size;have hbY:Below B w7 wY:=ed.out.trans ((g8.out.abQ).trans ((vQ _ _).grown H8.out.2.1 (by omega) (λj e=>(BA.out.lt j e).1)));refine⟨k+1,m+1,A8,c8,_,by omega,by go_num,rfl,by omega,jq (by rw[jU.out,QbQ uu.out,List.length_append,oS.out];rfl),jq (λj hj=>?_),jq (by rw[jU.out,QbQ uu.out];exact H8.out.1),jq hbY⟩;rcases hj with hj | hj
    ·have:=nW.out j hj;omega
    ·have:=H8.out.1.lt j hj;exact this
   case measure=>simp[intOf]<;>omega
  ·obtain rfl:k=N:=by omega
   have I6:Hid (a.sets.take k=a.sets):=jq (kQ (by rw[HN.out];omega));rw[I6.out] at HO oS;go_wp2_with fail;go_ret2;rw[Og.out];exact⟨_,_,_,rfl,HO.out.slr eB (by rw[oS.out];omega),by rw[HX.out];exact bN.out⟩
end
section
open Go.RowKit Go.Shelf
attribute [local go_sem] Oper.semAt_some
theorem LE(kv:Value)(known:List Np.Signed)(ey:Hid (Np.jW known))(an qn:ByteArray)(anchor:Np.DSet)(han:an.data.toList=anchor.name)(tr:an.size<=140737488355328)(adv:Value)(t at' dr:Int)(eA:qn.size<=140737488355328)(w:World)(hR:cr w w.heap.size)(hk:SlR az 5 w w.heap.size kv known)(nK:∀ x∈known,x.set.data.length<=100000/\x.sigs.length<=100000)(lX:SlR cm 3 w w.heap.size adv anchor.data)(Bg:Hid (Np.qZ known=true/\Np.bi anchor=true/\anchor.type=6/\(Np.ai qn.data.toList&&(decide (1<=t)&&decide (t<=8)))=true/\Np.mo at' dr=true)) :
 Calls prog 11 #[kv,.agg #[.string an,.int .i64 anchor.type,.int .i64 anchor.life,adv],.agg #[.string qn,.int .i64 t],.int .i64 at',.int .i64 dr] w (MO (Np.mX known anchor qn.data.toList t at' dr) w):=by
 obtain⟨A,N,C,rfl,hN,_,_⟩:=cE hk;obtain⟨aA,aN,aC,rfl,haN,_,_⟩:=cE lX;have HN:=jq hN;have ry:=jq nK;clear nK;have gZ:=jq han;obtain⟨X,hX⟩:=aaK w.heap.size;rw[hX] at hR hk lX;have HK:=jq hk;have nf:=jq lX;have eS:=jq hR;have HX:=jq hX;obtain⟨w1,ah⟩:=aaK (w.alloc (.cells #[.string an,.int .i64 anchor.type,.int .i64 anchor.life,.slice aA aN aC] 25));obtain⟨w2,ar⟩:=aaK (w1.alloc (.cells #[.string qn,.int .i64 t] 27));obtain⟨w3,bT⟩:=aaK (w2.alloc (.cells #[.int .i64 0,.string ⟨#[]⟩,.int .i64 0,.slice none 0 0] 33));obtain⟨w4,di⟩:=aaK (w3.alloc (.cells #[.int .i64 0] 34));have z1:w1.heap.size=X+1:=by rw[<-ah,<-hX];simp
 have z2:w2.heap.size=X+1+1:=by rw[<-ar];simp[z1]
 have z3:w3.heap.size=X+1+1+1:=by rw[<-bT];simp[z2]
 have z4:w4.heap.size=X+1+1+1+1:=by rw[<-di];simp[z3]
 have av:Below X w w1:=by rw[<-ah,<-hX];exact aG _ _
 have ae:Below w1.heap.size w1 w2:=by rw[<-ar];exact aG _ _
 have aq:Below w2.heap.size w2 w3:=by rw[<-bT];exact aG _ _
 have aE:Below w3.heap.size w3 w4:=by rw[<-di];exact aG _ _
 have og:Hid (X+1+1+1+1<=w4.heap.size):=jq (by omega);have Hi:=jq (av.trans ((ae.abQ).trans ((aq.abQ).trans (aE.abQ))));have wm:Hid (Outs X w4 0 ⟨#[]⟩ 0 (.slice none 0 0) 0):=jq ⟨(aE.block (X+1+1) (by omega)).trans (by rw[<-bT,<-z2];exact heap_alloc_new _ _),by rw[<-di,<-z3];exact heap_alloc_new _ _⟩;have cN:Hid (w4.heap[X]?=some (.cells [Value.string an,.int .i64 anchor.type,.int .i64 anchor.life,.slice aA aN aC].toArray 25 (0,0))):=jq ((aE.block X (by omega)).trans ((aq.block X (by omega)).trans ((ae.block X (by omega)).trans (by rw[<-ah,<-hX];exact heap_alloc_new _ _))));have dH:Hid (w4.heap[X+1]?=some (.cells [Value.string qn,.int .i64 t].toArray 27 (0,0))):=jq ((aE.block (X+1) (by omega)).trans ((aq.block (X+1) (by omega)).trans (by rw[<-ar,<-z1];exact heap_alloc_new _ _)));obtain⟨RES,gp⟩:=aaK (Np.mX known anchor qn.data.toList t at' dr);rw[gp];have cR:=jq gp;have pL:Hid (∀ W,Outs X W 0 ⟨#[]⟩ 0 (.slice none 0 0) 0->Below X w W->RES=(⟨0,([],0),[]⟩,1)->∀ tmps:Array Value,tmps[10]?=some (.pointer (some ⟨X+1+1,0,none⟩))->tmps[11]?=some (.pointer (some ⟨X+1+1+1,0,none⟩))->
  bodyPostM Fence.wide 0 prog Tryz.f11 (MO RES w) .ret { tmps:=tmps,defers:=[] } (mZ W X 0 ⟨#[]⟩ 0 (.slice none 0 0) 1)):=jq (λW ho hb hr tmps t0 t1=>by
  refine zl (LF (ho.out 0 ⟨#[]⟩ 0 (.slice none 0 0) 1) t0 t1) ?_;rw[hr];exact⟨⟨#[]⟩,none,0,0,rfl,rfl,by decide,λ_ _=>jO _ _,by rw[hX];exact GH hb _ _ _ _ _⟩)
 clear gp av ae aq aE hk lX hR hN han;refine (callsIn_wide (n:=0)).1 ?_;refine callsIn_of_wp_marks func11 rfl trivial ?_ rfl;simp only[ntmps11,List.size_toArray,List.length_cons,List.length_nil,Nat.reduceAdd,Nat.reduceSub,Array.replicate_succ,Array.replicate_zero,List.push_toArray,List.append_toArray,List.nil_append,List.cons_append];gi_wp2_with fail;clear ah ar bT di;refine⟨trivial,rfl,?_⟩;refine (callsIn_wide.2 (a8X (.slice A N C) known w4 ((eS.out.keep Hi.out).more (by have:=og.out;omega)) ((HK.out.keep ax Hi.out).more aK (by have:=og.out;omega)))).mono ?_;rintro e w5 ⟨rfl,aO⟩;have qU:X+1+1+1+1<=w5.heap.size:=by have:=aO.size;have:=og.out;omega
 have Hj:=jq (Hi.out.trans (aO.mono (by have:=og.out;omega)));have yT:=jq (wm.out.keep aO (by have:=og.out;omega));have AW:=jq ((aO.block X (by have:=og.out;omega)).trans cN.out);have WC:=jq ((aO.block (X+1) (by have:=og.out;omega)).trans dH.out);clear aO;obtain⟨g1,dK⟩:=aaK (Np.qZ known);rw[dK];have pS:=jq dK;clear dK
 cases g1 with
 | false=>exact absurd (pS.out.symm.trans Bg.out.1) (by decide)
 | true=>
  have uy:Hid (cr w5 w5.heap.size/\SlR cm 3 w5 w5.heap.size (.slice aA aN aC) anchor.data):=jq (And.intro ((eS.out.keep Hj.out).more (by omega)) ((nf.out.keep bM Hj.out).more bY (by omega)));have a0:=af _ AW.out 0 _ rfl;have a1:=af _ AW.out 1 _ rfl;have a2:=af _ AW.out 2 _ rfl;have a3:=af _ AW.out 3 _ rfl;gi_wp2_with fail;clear a0 a1 a2 a3;refine⟨trivial,rfl,?_⟩;refine (callsIn_wide.2 (sH an tr anchor.type anchor.life _ anchor.data w5 uy.out.1 uy.out.2)).mono ?_;rintro e w6 ⟨rfl,bE⟩;have px:=bE.size;have Nc:=aaZ Hj bE;have kH:=jq (yT.out.keep bE (by omega));have AX:=jq ((bE.block X (by omega)).trans AW.out);have Hs:=jq ((bE.block (X+1) (by omega)).trans WC.out);obtain⟨g2,fo⟩:=aaK (Np.bi ⟨an.data.toList,anchor.type,anchor.life,anchor.data⟩);rw[fo];rw[gZ.out] at fo;have lD:Hid (Np.bi anchor=g2):=jq fo;clear fo bE
  cases g2 with
  | false=>exact absurd (lD.out.symm.trans Bg.out.2.1) (by decide)
  | true=>
   have a0:=af _ AX.out 0 _ rfl;have a1:=af _ AX.out 1 _ rfl;have h6:anchor.type=6:=Bg.out.2.2.1;have h6':(anchor.type == 6)=true:=by simpa using h6
   have H6:=jq h6;clear h6;by_cases zR:an.data.toList = [46]
   case neg=>
    have SS:(an.toList == [46])=false:=by rw[dQ];simpa using zR
    have sU:Hid (anchor.name≠[46]):=jq (by rw[<-gZ.out];exact zR);clear zR;have y0:=af _ kH.out.h2 0 _ rfl;have g0:w6.frozen? ⟨X+1+1,0,none⟩=false:=by simp[World.frozen?,kH.out.h2]
    have y1:=af _ kH.out.h2 1 _ rfl;have g1:w6.frozen? ⟨X+1+1,1,none⟩=false:=by simp[World.frozen?,kH.out.h2]
    have y2:=af _ kH.out.h2 2 _ rfl;have g2:w6.frozen? ⟨X+1+1,2,none⟩=false:=by simp[World.frozen?,kH.out.h2]
    have y3:=af _ kH.out.h2 3 _ rfl;have g3:w6.frozen? ⟨X+1+1,3,none⟩=false:=by simp[World.frozen?,kH.out.h2]
    have y4:=af _ kH.out.h3 0 _ rfl;have g4:w6.frozen? ⟨X+1+1+1,0,none⟩=false:=by simp[World.frozen?,kH.out.h3]
    gi_wp2_with fail;exact pL.out w6 kH.out Nc.out (by rw[<-cR.out,Np.TG (.inr (.inr (.inr sU.out)))]) _ rfl rfl
   have SS:(an.toList == [46])=true:=by rw[dQ,zR];rfl
   have sU:Hid (anchor.name = [46]):=jq (by rw[<-gZ.out];exact zR);clear zR;have c0:=af _ Hs.out 0 _ rfl;have c1:=af _ Hs.out 1 _ rfl;gi_wp2_with fail;clear a0 a1 h6' SS c0 c1;refine⟨trivial,rfl,?_⟩;replace AX:Hid (w6.heap[X]?=some (.cells [Value.string an,.int .i64 6,.int .i64 anchor.life,.slice aA aN aC].toArray 25 (0,0))):=jq (by have h:=AX.out;rw[H6.out] at h;exact h);refine (callsIn_wide.2 (Vi qn eA t w6)).mono ?_;rintro e w7 ⟨rfl,bF⟩;have qV:=bF.size;have Wg:=aaZ Nc bF;have yU:=jq (kH.out.keep bF (by omega));have WB:=jq ((bF.block X (by omega)).trans AX.out);have WD:=jq ((bF.block (X+1) (by omega)).trans Hs.out);clear bF;obtain⟨g3,ii⟩:=aaK (Np.ai qn.data.toList&&(decide (1<=t)&&decide (t<=8)));rw[ii];have Bf:=jq ii;clear ii
   cases g3 with
   | false=>exact absurd (Bf.out.symm.trans Bg.out.2.2.2.1) (by decide)
   | true=>
    have Ta:=Bg.out.2.2.2.2;simp only[Np.mo,Bool.and_eq_true,Qa] at Ta;have QZ:¬ at'<0:=by omega
    have h0b:decide (at'<0)=false:=tQ QZ;have Q0:¬ 10000000<at':=by omega
    have tj:decide (10000000<at')=false:=tQ Q0;have Q1:¬ dr<0:=by omega
    have h2b:decide (dr<0)=false:=tQ Q1;have Q4:¬ 1000<dr:=by omega
    have h3b:decide (1000<dr)=false:=tQ Q4;have EN:Hid (Np.mo at' dr=true):=jq (by simp only[Np.mo,Bool.and_eq_true,Qa];omega);clear Ta;have fZ:known.length<=400:=by have h:=pS.out;unfold Np.qZ at h;simp only[Bool.and_eq_true,Qa] at h;exact h.1
    have fz:Hid (∀ x∈known,Np.bi x.set=true):=jq (λx hx=>by
     have h:=pS.out;unfold Np.qZ at h;simp only[Bool.and_eq_true,Bool.not_eq_true',List.any_eq_false] at h;simpa using h.2 x hx)
    have za:Hid (RES=Np.t6 known anchor at' dr (Np.lx known t 8 qn.data.toList) []):=jq (by rw[<-cR.out,Np.Ai pS.out lD.out H6.out sU.out Bf.out EN.out]);have eN:Hid (Np.ai qn.data.toList=true):=jq (by have h:=Bf.out;simp only[Bool.and_eq_true] at h;exact h.1);gi_wp2_with fail;clear h0b tj h2b h3b QZ Q0 Q1 Q4 cR pL;obtain⟨w8,dX⟩:=aaK w7.drew;have cA:Below w7.heap.size w7 w8:=by rw[<-dX];exact (vQ _ _).drew
    have su:w8.heap.size=w7.heap.size:=by rw[<-dX];rfl
    have BQ:=jq su;have yI:=jq ((cA.block X (by omega)).trans WB.out);have Hk:=aaZ Wg cA;have yD:=jq cA;have hX8:X+1+1+1+1<=w8.heap.size:=by omega
    have b0:=af _ yI.out 0 _ rfl;have b1:=af _ yI.out 1 _ rfl;have b2:=af _ yI.out 2 _ rfl;have b3:=af _ yI.out 3 _ rfl;clear su cA;refine MD λa0 bD=>?_;have jt:=jq bD;have aD:=jq (show a0.eval (.tmp 0) = .slice A N C by rw[bD];rfl);have aw:=jq (show a0.eval (.tmp 3) = .int .i64 at' by rw[bD];rfl);have aX:=jq (show a0.eval (.tmp 4) = .int .i64 dr by rw[bD];rfl);have bH:=jq (show a0.eval (.tmp 6) = .pointer (some ⟨X,0,none⟩) by rw[bD];rfl);have HM:=jq (show a0.tmps.size=97 by rw[bD];rfl);clear bD;refine wpIn_mono (Q:=Jd5 a0 X known A N C an 6 anchor.life aA aN aC at' dr w8) (wpIn_wide.2 (wp_region_any (by kernel_rfl) ?_)) ?_
    case refine_1=>
     try rw[show ({ heap:=w7.heap,tape:=w7.tape,drawn:=w7.drawn+1,os:=w7.os,output:=w7.output } : World)=w8 from dX]
     try rw[dX]
     clear dX;refine Mi [2,7] 2 (D:=[0,1,3,4,5]) (val:=iU A N C an 6 anchor.life aA aN aC at' dr undef undef) qX tZ (rR HM.out) (by kernel_rfl) ?_ ?_
     ·intro i au aI o ho a' hb ao;have k0':=adJ hb aD.out;have k3':=adJ hb aw.out;have k4':=adJ hb aX.out;have k6':=adJ hb bH.out;simp[Act.eval] at k0' k3' k4' k6'
      repeat' (rcases au with _ | ⟨_,au⟩)
      all_goals first
       | (exfalso;simp at aI;done)
       | (cases ho
          try simp[Act.eval,Region.binds,iU,mj] at ao
          refine cC (by simp[Region.wanted]) ?_;simp[Oper.quietAt,Oper.quietUpon,execOp,go_sem,iU,k0',k3',k4',k6',b0,b1,b2,b3,ao])
     ·intro p jG
      repeat' (rcases jG with _ | ⟨_,jG⟩)
      ·intro f listed a' hH hr hv;have av1:=hv 1;simp[Act.eval,iU,mj] at av1;simp only[wpOp];simp[Region.wanted];refine .inl ?_;simp[Oper.wp,go_sem,av1];refine (Qj (.slice A N C) known w8 X (by omega) (HK.out.keep ax Hk.out) (by omega)).mono ?_;rintro e wc ⟨r,kvs,rfl,dl,jH,u7,gP,iM⟩;replace b0:=aaQ iM b0;replace b1:=aaQ iM b1;replace b2:=aaQ iM b2;replace b3:=aaQ iM b3;have Bv:=jq (And.intro u7 gP);have ru:=jq (And.intro dl jH);have jP:=jq iM;clear u7 gP iM dl jH;dsimp only;refine cM 7 (D:=[0,1,3,4,5,6,2]) (val:=iU A N C an 6 anchor.life aA aN aC at' dr (.map (some r)) undef) qX tZ (hH.next qX tZ hr) (by kernel_rfl) ?_ ?_
       ·intro i au aI o ho a' hb ao;have k0':=adJ hb aD.out;have k3':=adJ hb aw.out;have k4':=adJ hb aX.out;have k6':=adJ hb bH.out;simp[Act.eval] at k0' k3' k4' k6'
        repeat' (rcases au with _ | ⟨_,au⟩)
        all_goals first
         | (exfalso;simp at aI;done)
         | (cases ho
            try simp[Act.eval,Region.binds,iU,mj] at ao
            refine cC (by simp[Region.wanted]) ?_;simp[Oper.quietAt,Oper.quietUpon,execOp,go_sem,iU,k0',k3',k4',k6',b0,b1,b2,b3,ao])
       ·intro f listed a' hH hr hv;simp only[wpOp];simp[Region.wanted];refine .inl ?_;simp[Oper.wp,execOp,go_sem];obtain⟨wd,bp⟩:=aaX (wc.alloc (.cells #[.slice none 0 0,.map none,.string ⟨#[]⟩,.int .i64 0,.int .i64 0,.slice none 0 0,.int .i64 0,.int .i64 0] 80));rw[<-bp];have aJ:Hid (Below wc.heap.size wc wd):=jq (by rw[bp];exact aG _ _);have jR:Hid (wd.heap[wc.heap.size]?=some (.cells [Value.slice none 0 0,.map none,.string ⟨#[]⟩,.int .i64 0,.int .i64 0,.slice none 0 0,.int .i64 0,.int .i64 0].toArray 80 (0,0))):=jq (by rw[bp];exact heap_alloc_new _ _);have kG:Hid (wc.heap.size<wd.heap.size):=jq (by rw[bp];simp);replace b0:=(aJ.out.cell (p:=⟨X,0,none⟩) (by dsimp only;have:=jP.out.size;omega)).trans b0;replace b1:=(aJ.out.cell (p:=⟨X,1,none⟩) (by dsimp only;have:=jP.out.size;omega)).trans b1;replace b2:=(aJ.out.cell (p:=⟨X,2,none⟩) (by dsimp only;have:=jP.out.size;omega)).trans b2;replace b3:=(aJ.out.cell (p:=⟨X,3,none⟩) (by dsimp only;have:=jP.out.size;omega)).trans b3;clear bp;refine cM 8 (D:=[0,1,3,4,5,6,2,7]) (val:=iU A N C an 6 anchor.life aA aN aC at' dr (.map (some r)) (.pointer (some ⟨wc.heap.size,0,none⟩))) qX tZ (hH.next qX tZ hr) (by kernel_rfl) ?_ ?_
        ·intro i au aI o ho a' hb ao;have k0':=adJ hb aD.out;have k3':=adJ hb aw.out;have k4':=adJ hb aX.out;have k6':=adJ hb bH.out;simp[Act.eval] at k0' k3' k4' k6'
         repeat' (rcases au with _ | ⟨_,au⟩)
         all_goals first
          | (exfalso;simp at aI;done)
          | (cases ho
             try simp[Act.eval,Region.binds,iU,mj] at ao
             refine cC (by simp[Region.wanted]) ?_;simp[Oper.quietAt,Oper.quietUpon,execOp,go_sem,iU,k0',k3',k4',k6',b0,b1,b2,b3,ao])
        ·intro f listed a' hH hr hv;have av6:=hv 6;have av7:=hv 7;simp[Act.eval,iU,mj] at av6 av7;simp only[wpOp];simp[Region.wanted];refine .inl ?_;have aY:=jR.out;have y0:=af _ aY 0 _ rfl;have g0:wd.frozen? ⟨wc.heap.size,0,none⟩=false:=by simp[World.frozen?,aY]
         have y1:=af _ aY 1 _ rfl;have g1:wd.frozen? ⟨wc.heap.size,1,none⟩=false:=by simp[World.frozen?,aY]
         have y2:=af _ aY 2 _ rfl;have g2:wd.frozen? ⟨wc.heap.size,2,none⟩=false:=by simp[World.frozen?,aY]
         have y3:=af _ aY 3 _ rfl;have g3:wd.frozen? ⟨wc.heap.size,3,none⟩=false:=by simp[World.frozen?,aY]
         have y4:=af _ aY 4 _ rfl;have g4:wd.frozen? ⟨wc.heap.size,4,none⟩=false:=by simp[World.frozen?,aY]
         have y5:=af _ aY 5 _ rfl;have g5:wd.frozen? ⟨wc.heap.size,5,none⟩=false:=by simp[World.frozen?,aY]
         have y6:=af _ aY 6 _ rfl;have g6:wd.frozen? ⟨wc.heap.size,6,none⟩=false:=by simp[World.frozen?,aY]
         have y7:=af _ aY 7 _ rfl;have g7:wd.frozen? ⟨wc.heap.size,7,none⟩=false:=by simp[World.frozen?,aY]
         simp[Oper.wp,execOp,go_sem,av6,av7,y0,y1,y2,y3,y4,y5,y6,y7,g0,g1,g2,g3,g4,g5,g6,g7];refine nU hH hr HM.out qX (by kernel_rfl) λeO=>?_
         ·rw[eO];refine⟨r,wc.heap.size,kvs,rfl,rfl,jP.out.size,by have:=kG.out;simpa [World.setCell] using this,ru.out.1,by have:=kG.out;have:=ru.out.2;simp[World.setCell];omega,by have:=ru.out.2;omega,by simp[World.setCell,Array.getElem?_modify,jR.out],?_,?_,?_⟩
          ·exact (Bv.out.1.keep aJ.out ru.out.2).keep' (by simp[World.setCell,Array.getElem?_modify,Nat.ne_of_gt ru.out.2])
          ·exact Bv.out.2.keep ((GG (n:=w8.heap.size) (aJ.out.mono jP.out.size) jP.out.size _ _ _ _ _ _ _ _).abQ)
          ·exact GG (jP.out.trans (aJ.out.mono jP.out.size)) jP.out.size _ _ _ _ _ _ _ _
      ·intro f listed a' hH hr hv;simp only[wpOp];simp[Region.wanted];refine .inl ?_;simp[Oper.wp,execOp,go_sem];obtain⟨wd,bp⟩:=aaX (w8.alloc (.cells #[.slice none 0 0,.map none,.string ⟨#[]⟩,.int .i64 0,.int .i64 0,.slice none 0 0,.int .i64 0,.int .i64 0] 80));rw[<-bp];have aJ:Hid (Below w8.heap.size w8 wd):=jq (by rw[bp];exact aG _ _);have jR:Hid (wd.heap[w8.heap.size]?=some (.cells [Value.slice none 0 0,.map none,.string ⟨#[]⟩,.int .i64 0,.int .i64 0,.slice none 0 0,.int .i64 0,.int .i64 0].toArray 80 (0,0))):=jq (by rw[bp];exact heap_alloc_new _ _);have kG:Hid (w8.heap.size<wd.heap.size):=jq (by rw[bp];simp);replace b0:=aaQ aJ.out b0;replace b1:=aaQ aJ.out b1;replace b2:=aaQ aJ.out b2;replace b3:=aaQ aJ.out b3;clear bp;refine cM 2 (D:=[0,1,3,4,5,7]) (val:=iU A N C an 6 anchor.life aA aN aC at' dr undef (.pointer (some ⟨w8.heap.size,0,none⟩))) qX tZ (hH.next qX tZ hr) (by kernel_rfl) ?_ ?_
       ·intro i au aI o ho a' hb ao;have k0':=adJ hb aD.out;have k3':=adJ hb aw.out;have k4':=adJ hb aX.out;have k6':=adJ hb bH.out;simp[Act.eval] at k0' k3' k4' k6'
        repeat' (rcases au with _ | ⟨_,au⟩)
        all_goals first
         | (exfalso;simp at aI;done)
         | (cases ho
            try simp[Act.eval,Region.binds,iU,mj] at ao
            refine cC (by simp[Region.wanted]) ?_;simp[Oper.quietAt,Oper.quietUpon,execOp,go_sem,iU,k0',k3',k4',k6',b0,b1,b2,b3,ao])
       ·intro f listed a' hH hr hv;have av1:=hv 1;simp[Act.eval,iU,mj] at av1;simp only[wpOp];simp[Region.wanted];refine .inl ?_;simp[Oper.wp,go_sem,av1];refine (Qj (.slice A N C) known wd X (by have:=aJ.out.size;omega) (HK.out.keep ax (Hk.out.trans (aJ.out.abQ))) (by omega)).mono ?_;rintro e wc ⟨r,kvs,rfl,dl,jH,u7,gP,iM⟩;replace b0:=(iM.cell (p:=⟨X,0,none⟩) (by dsimp only;have:=aJ.out.size;omega)).trans b0;replace b1:=(iM.cell (p:=⟨X,1,none⟩) (by dsimp only;have:=aJ.out.size;omega)).trans b1;replace b2:=(iM.cell (p:=⟨X,2,none⟩) (by dsimp only;have:=aJ.out.size;omega)).trans b2;replace b3:=(iM.cell (p:=⟨X,3,none⟩) (by dsimp only;have:=aJ.out.size;omega)).trans b3;have Bv:=jq (And.intro u7 gP);have ru:=jq (And.intro dl jH);have jP:=jq iM;clear u7 gP iM dl jH;dsimp only;refine cM 8 (D:=[0,1,3,4,5,6,2,7]) (val:=iU A N C an 6 anchor.life aA aN aC at' dr (.map (some r)) (.pointer (some ⟨w8.heap.size,0,none⟩))) qX tZ (hH.next qX tZ hr) (by kernel_rfl) ?_ ?_
        ·intro i au aI o ho a' hb ao;have k0':=adJ hb aD.out;have k3':=adJ hb aw.out;have k4':=adJ hb aX.out;have k6':=adJ hb bH.out;simp[Act.eval] at k0' k3' k4' k6'
         repeat' (rcases au with _ | ⟨_,au⟩)
         all_goals first
          | (exfalso;simp at aI;done)
          | (cases ho
             try simp[Act.eval,Region.binds,iU,mj] at ao
             refine cC (by simp[Region.wanted]) ?_;simp[Oper.quietAt,Oper.quietUpon,execOp,go_sem,iU,k0',k3',k4',k6',b0,b1,b2,b3,ao])
        ·intro f listed a' hH hr hv;have av6:=hv 6;have av7:=hv 7;simp[Act.eval,iU,mj] at av6 av7;simp only[wpOp];simp[Region.wanted];refine .inl ?_;have aY:=(jP.out.block w8.heap.size kG.out).trans jR.out;have y0:=af _ aY 0 _ rfl;have g0:wc.frozen? ⟨w8.heap.size,0,none⟩=false:=by simp[World.frozen?,aY]
         have y1:=af _ aY 1 _ rfl;have g1:wc.frozen? ⟨w8.heap.size,1,none⟩=false:=by simp[World.frozen?,aY]
         have y2:=af _ aY 2 _ rfl;have g2:wc.frozen? ⟨w8.heap.size,2,none⟩=false:=by simp[World.frozen?,aY]
         have y3:=af _ aY 3 _ rfl;have g3:wc.frozen? ⟨w8.heap.size,3,none⟩=false:=by simp[World.frozen?,aY]
         have y4:=af _ aY 4 _ rfl;have g4:wc.frozen? ⟨w8.heap.size,4,none⟩=false:=by simp[World.frozen?,aY]
         have y5:=af _ aY 5 _ rfl;have g5:wc.frozen? ⟨w8.heap.size,5,none⟩=false:=by simp[World.frozen?,aY]
         have y6:=af _ aY 6 _ rfl;have g6:wc.frozen? ⟨w8.heap.size,6,none⟩=false:=by simp[World.frozen?,aY]
         have y7:=af _ aY 7 _ rfl;have g7:wc.frozen? ⟨w8.heap.size,7,none⟩=false:=by simp[World.frozen?,aY]
         simp[Oper.wp,execOp,go_sem,av6,av7,y0,y1,y2,y3,y4,y5,y6,y7,g0,g1,g2,g3,g4,g5,g6,g7];refine nU hH hr HM.out qX (by kernel_rfl) λeO=>?_
         ·rw[eO];refine⟨r,w8.heap.size,kvs,rfl,rfl,bQ _,by have:=kG.out;have:=jP.out.size;simp[World.setCell];omega,by have:=kG.out;have:=ru.out.1;omega,by have:=ru.out.2;simpa [World.setCell] using this,by have:=ru.out.1;have:=kG.out;omega,by simp[World.setCell,Array.getElem?_modify,aY],?_,?_,?_⟩
          ·exact Bv.out.1.keep' (by have h1:=ru.out.1;have h2:=kG.out;simp[World.setCell,Array.getElem?_modify,show w8.heap.size≠r by omega])
          ·exact Bv.out.2.keep (GG (vQ X wc) (by omega) _ _ _ _ _ _ _ _)
          ·exact GG (aJ.out.trans (jP.out.mono aJ.out.size)) (bQ _) _ _ _ _ _ _ _ _
    rintro ex a' w9 ⟨r,E,kvs,rfl,rfl,hE1,hE2,dl,jH,hrE,RN,u7,gP,cW⟩;rw[jt.out];simp[kq,Act.put,iU,mj];obtain⟨G,hG⟩:=aaK w9.heap.size;have Lw:=cW.size;have Wi:=aaZ Hk cW;have Yc:=jq (yU.out.keep (yD.out.trans (cW.mono yD.out.size)) (by omega));have WE:=jq ((yD.out.trans (cW.mono yD.out.size)).block (X+1) (by omega) |>.trans WD.out);obtain⟨w10,tV⟩:=aaK (w9.alloc (.cells #[.slice none 0 0] 22));have Tj:w10.heap.size=G+1:=by rw[<-tV,<-hG];simp
    have qz:Below G w9 w10:=by rw[<-tV,<-hG];exact aG _ _
    have WI:Hid (w10.heap[G]?=some (.cells [Value.slice none 0 0].toArray 22 (0,0))):=jq (by rw[<-tV,<-hG];exact heap_alloc_new _ _);have sL:=jq ((qz.block E (by omega)).trans RN);have V8:=aaZ Wi qz;have X9:=jq (Yc.out.keep qz (by omega));have XU:=jq (u7.keep qz (by omega));have WA:=jq (gP.keep (qz.abQ));have Nn:=jq ((qz.block (X+1) (by omega)).trans WE.out);have j0:=af _ sL.out 0 _ rfl;have j1:=af _ sL.out 1 _ rfl;have j2:=af _ sL.out 2 _ rfl;have j3:=af _ sL.out 3 _ rfl;have j4:=af _ sL.out 4 _ rfl;have j5:=af _ sL.out 5 _ rfl;have j6:=af _ sL.out 6 _ rfl;have j7:=af _ sL.out 7 _ rfl;have q0:=af _ Nn.out 0 _ rfl;have q1:=af _ Nn.out 1 _ rfl;have BP:=jq Tj;clear cW RN u7 gP qz Tj;gi_wp2_with fail;clear tV;gi_wp2_with fail;clear j0 j1 j2 j3 j4 j5 j6 j7 q0 q1;refine⟨trivial,rfl,?_⟩;refine (callsIn_wide.2 (bcQ (.slice A N C) (.slice aA aN aC) r an qn 6 anchor.life at' dr t w10 ⟨_,_,_,rfl⟩ ⟨_,_,_,rfl⟩)).mono ?_;rintro e w11 ⟨rfl,qR⟩;have rO:Below w10.heap.size w10 w11:=by rw[qR];exact ((vQ _ w10).alloc (bQ _) _).alloc (by simp) _
    have cbK:w11.heap.size=G+1+1+1:=by rw[qR];simp[BP.out]
    have CD:w11.heap[G+1]?=some (.cells [Value.slice A N C,.map (some r),.string an,.int .i64 6,.int .i64 anchor.life,.slice aA aN aC,.int .i64 at',.int .i64 dr].toArray 80 (0,0)):=by
     rw[qR,<-BP.out];exact (Below.heap_alloc _ _ _ (by simp)).trans (heap_alloc_new _ _)
    have xA:w11.heap[G+1+1]?=some (.cells [Value.string qn,.int .i64 t].toArray 27 (0,0)):=by
     have h1:=heap_alloc_new (w10.alloc (.cells #[.slice A N C,.map (some r),.string an,.int .i64 6,.int .i64 anchor.life,.slice aA aN aC,.int .i64 at',.int .i64 dr] 80)) (.cells #[.string qn,.int .i64 t] 27);rw[World.size_alloc,BP.out] at h1;rw[qR];exact h1
    have hZ:=BP.out;have D5:=aaZ V8 rO;have J4:=bcZ (.slice A N C) (.slice aA aN aC) known ey (by omega) fz.out r kvs an qn eN.out 6 anchor.life at' dr t (G+1) (G+1+1) X w11 (eS.out.keep D5.out) (HK.out.keep ax D5.out) ⟨_,_,_,rfl⟩ (by omega) (by omega) (XU.out.keep rO (by omega)) (WA.out.keep (rO.abQ)) (by omega) (by omega) (by omega) CD xA;have Ya:=jq (X9.out.keep rO (by omega));have WH:=jq ((rO.block E (by omega)).trans sL.out);have WJ:=jq ((rO.block G (by omega)).trans WI.out);obtain⟨LS,tm⟩:=aaK (Np.lx known t 8 qn.data.toList);have XP:Hid (Np.Found.loop∉LS):=jq (by rw[<-tm];exact ey.out.loop t qn.data.toList);have cF:Hid (LS.length<=410):=jq (by rw[<-tm];have:=Np.TW known t 8 qn.data.toList;omega);have cV:Hid (∀ s,Np.Found.set s∈LS->s∈known):=jq (λs hs=>Np.TV 8 qn.data.toList (by rw[tm];exact hs));rw[tm] at za J4;have Ip:=jq J4;rw[hZ];clear qR CD xA J4 tm hZ rO BP BQ;gi_wp2_with fail;refine bPY (Dr:=λk=>k<X\/k=G+1\/k=r) (O:=λk=>k=G+1+1) (w0:=w11) (first:=#[]) (captured:=#[.pointer (some ⟨G+1,0,none⟩),.pointer (some ⟨G+1+1,0,none⟩)]) (gf:=90) rfl auK (mk:=λy=>#[y,.pointer (some ⟨G+1,0,none⟩),.pointer (some ⟨G+1+1,0,none⟩)]) (λ_=>rfl)
     Ip.out (dI.refl λk e=>by have:=HX.out;omega) (dI.refl λk e=>by omega) (λ_=>rfl) (JI known anchor at' dr LS X E G [Value.slice A N C,.map (some r),.string an,.int .i64 6,.int .i64 anchor.life,.slice aA aN aC,.int .i64 at',.int .i64 dr] w) (JX known anchor at' dr LS X w)
     (a6Z (by omega) (by omega) (by omega) (by rw[HX.out];exact bQ _) (by omega) (by omega)) (λc=>a6J (G:=G) (by omega) (by omega) (by rw[HX.out];exact bQ _) (by omega) c)
     (λk=>k=X+1+1\/k=X+1+1+1\/k=G) (by intro k h;omega) (by intro k h;omega) (by intro k h;omega)
     ⟨.slice none 0 0,[],⟨.inl rfl,.inr (.inl rfl),.inr (.inr rfl),λg h=>by simp[Value.ownBlock] at h,λk h=>by omega,WJ.out,Ya.out,WH.out,em.nil _,rfl,λrest h=>by rw[h];rfl,D5.out⟩⟩ ?round ?done ?stop
    case stop=>
     rintro D c pre S W hD gq bJ mf ⟨rfl,hS2,hS3,k,q,q2,cd,ho,hv,hq,jB⟩ hK;have h2:X+1+1≠D:=λe=>gq (e ▸ hS2);have h3:X+1+1+1≠D:=λe=>gq (e ▸ hS3);have ip:=jq hK;have IF:=jq (ho.same (W':=W.putObj D (.deferred none)) (zQ h2) (zQ h3));have AO:Hid (Below X w (W.putObj D (.deferred none))):=jq (o7 jB (by omega) _);have uy:Hid (RES=(⟨k,(q.data.toList,q2),[]⟩,cd)):=jq (by rw[za.out];exact hv);clear hK ho jB hv;gi_wp2_with fail;refine pb ip.out (LF IF.out rfl rfl) ?_;rw[uy.out];exact⟨q,none,0,0,rfl,rfl,hq,λ_ _=>jO _ _,by rw[HX.out];exact AO.out⟩
    case done=>
     rintro xs D S W uU hD gq bJ ⟨gv,good,h⟩ hK;obtain⟨n,hn⟩:=aaK good.length;obtain⟨oA,oc,rfl⟩:=h.ow.formN hn;have KN:n<=410:=by
      have h1:=cF.out;rw[<-uU.1,List.length_map] at h1;have h2:=h.len;omega
     have h2:D≠X+1+1:=λe=>gq (e ▸ h.s2);have h3:D≠X+1+1+1:=λe=>gq (e ▸ h.s3);have ip:Hid ((mZ W X 1 ⟨#[]⟩ 0 (.slice oA n oc) 0).heap[D]?=some (.deferred (some []))):=jq ((LT _ _ _ _ _ _ _ h2 h3).trans hK);have IF:Hid (Outs X ((mZ W X 1 ⟨#[]⟩ 0 (.slice oA n oc) 0).putObj D (.deferred none)) 1 ⟨#[]⟩ 0 (.slice oA n oc) 0):=jq ((h.out.out 1 ⟨#[]⟩ 0 (.slice oA n oc) 0).same (zQ (Ne.symm h2)) (zQ (Ne.symm h3)));have AO:Hid (Below X w ((mZ W X 1 ⟨#[]⟩ 0 (.slice oA n oc) 0).putObj D (.deferred none))):=jq (o7 (GH h.bel _ _ _ _ _) (by omega) _);have Y3:Hid (dO az 5 0 w.heap.size ((mZ W X 1 ⟨#[]⟩ 0 (.slice oA n oc) 0).putObj D (.deferred none)) (.slice oA n oc) good):=jq (by
      have hr:=LU (RdStep.refl S W) h.s2 h.s3 1 ⟨#[]⟩ 0 (.slice oA n oc) 0;have hf:em az 5 44 (G+1) (JMs X G (.slice oA n oc) S) ((mZ W X 1 ⟨#[]⟩ 0 (.slice oA n oc) 0).putObj D (.deferred none)) (.slice oA n oc) good:=by
       refine h.ow.leaves ax eB aK ⟨hr.os,hr.tape,hr.output,by simpa using hr.size,λi hi hm=>⟨hm,?_⟩⟩ (λg hg=>⟨?_,.inr (.inr (.inr (.inl hg)))⟩)
       ·have hs:S i:=Classical.byContradiction λhs=>hm (.inr (.inr (.inr (.inr hs))));exact (zQ (λe=>gq (by rw[<-e];exact hs))).trans (LT _ _ _ _ _ _ _ (λe=>hm (.inr (.inl e))) (λe=>hm (.inr (.inr (.inl e)))))
       ·have hs:=h.so g hg;have hl:=(h.ow.lt g hg).1;exact (zQ (λe=>gq (by rw[<-e];exact hs))).trans (LT _ _ _ _ _ _ _ (by omega) (by omega))
      exact λM hM=>hf.slr_sans eB aK (λk hk=>by
       have h1:=(hM k hk).2;rw[HX.out] at h1;refine⟨.inr (.inr (.inr (.inr (λhs=>by have:=h.sb k hs;omega)))),λe=>by have:=(h.ow.lt k e).1;omega⟩) (by rw[hn];omega))
     have uy:Hid (RES=(⟨1,([],0),good⟩,0)):=jq (by rw[za.out,h.val [] (by rw[uU.1];simp)];rfl);have c0:=af _ h.cg 0 _ rfl;have y0:=af _ h.out.h2 0 _ rfl;have g0:W.frozen? ⟨X+1+1,0,none⟩=false:=by simp[World.frozen?,h.out.h2]
     have y1:=af _ h.out.h2 1 _ rfl;have g1:W.frozen? ⟨X+1+1,1,none⟩=false:=by simp[World.frozen?,h.out.h2]
     have y2:=af _ h.out.h2 2 _ rfl;have g2:W.frozen? ⟨X+1+1,2,none⟩=false:=by simp[World.frozen?,h.out.h2]
     have y3:=af _ h.out.h2 3 _ rfl;have g3:W.frozen? ⟨X+1+1,3,none⟩=false:=by simp[World.frozen?,h.out.h2]
     have y4:=af _ h.out.h3 0 _ rfl;have g4:W.frozen? ⟨X+1+1+1,0,none⟩=false:=by simp[World.frozen?,h.out.h3]
     clear uU h hK hn;gi_wp2_with fail;refine pb ip.out (LF IF.out rfl rfl) ?_;rw[uy.out];exact⟨⟨#[]⟩,oA,n,oc,rfl,rfl,by decide,Y3.out,by rw[HX.out];exact AO.out⟩
    case round=>
     rintro l0 pre ⟨xv,xf⟩ S W bW hI fG;obtain⟨gv,good,h0⟩:=hI;have Eo:Hid (∀ g,gv.ownBlock=some g->g<W.heap.size):=jq (λg hg=>fG g (h0.so g hg));have hzW:G<W.heap.size:=fG G h0.sg;have il:pre.length+1<=410:=by
      have h1:=bW.1.length_le;have h2:=cF.out;simp at h1;omega
     obtain⟨rest,mU⟩:=bW.1;have Ez:Hid (LS=pre.map (·.2)++xf::rest):=jq (by rw[<-mU];simp);have KX:=bW.2 (xv,xf) (by simp);dsimp only at KX;have yY:=jq bW;clear mU bW
     cases xf with
     | loop=>exact absurd (by rw[Ez.out];simp) XP.out
     | miss mn mt=>
      obtain⟨qm,SK,dV,rfl⟩:=KX;have N7:=jq (And.intro SK dV);clear SK dV;gi_wp2_with fail;obtain⟨w1t,qS⟩:=aaK (W.alloc (.cells #[.int .i64 1,.string ⟨#[]⟩,.int .i64 0,.int .i64 0,.slice none 0 0,.slice none 0 0,.string qm,.int .i64 mt] 85));rw[qS];have xq:Below W.heap.size W w1t:=by rw[<-qS];exact aG _ _
      have Cw:w1t.heap[W.heap.size]?=some (.cells [Value.int .i64 1,.string ⟨#[]⟩,.int .i64 0,.int .i64 0,.slice none 0 0,.slice none 0 0,.string qm,.int .i64 mt].toArray 85 (0,0)):=by rw[<-qS];exact heap_alloc_new _ _
      have Af:w1t.heap.size=W.heap.size+1:=by rw[<-qS];simp
      have H1:=jq (h0.box xq (T:=W.heap.size) (by omega) (by omega));have I9:=jq Cw;have AP:=jq xq;have pZ:=jq Af;have BK:=jq fG;clear xq Cw Af h0 fG qS;refine⟨λk=>S k\/k=W.heap.size,RdStep.of_below AP.out,λk e=>e.imp id (λh=>Nat.le_of_eq h.symm),λk e=>e.elim (λe=>by have h1:=BK.out k e;have h2:=pZ.out;omega) (λe=>by have h2:=pZ.out;omega),?_⟩;intro l W₂ aH;have iK:=(aH.keep W.heap.size (by have:=pZ.out;omega) (.inr (.inr rfl))).trans I9.out;have h:=H1.out.it (B:=w11.heap.size) (bq:=G+1+1) (by omega) (by omega) (by omega) (by rw[HX.out];exact bQ _) (by omega) (by omega) aH;have gN:Hid (∀ k,(S k\/k=W.heap.size)->k<W₂.heap.size):=jq (λk e=>e.elim (λe=>by have h1:=BK.out k e;have h2:=pZ.out;have h3:=aH.size;omega) (λe=>by have h2:=pZ.out;have h3:=aH.size;omega));have bL:W.heap.size<W₂.heap.size:=gN.out _ (.inr rfl);have H:=jq h;have p0:=af _ iK 0 _ rfl;have p1:=af _ iK 1 _ rfl;have p2:=af _ iK 2 _ rfl;have p3:=af _ iK 3 _ rfl;have p4:=af _ iK 4 _ rfl;have p5:=af _ iK 5 _ rfl;have p6:=af _ iK 6 _ rfl;have p7:=af _ iK 7 _ rfl;have Ov:=jq iK;clear aH h iK;have y0:=af _ H.out.out.h2 0 _ rfl;have g0:W₂.frozen? ⟨X+1+1,0,none⟩=false:=by simp[World.frozen?,H.out.out.h2]
      have y1:=af _ H.out.out.h2 1 _ rfl;have g1:W₂.frozen? ⟨X+1+1,1,none⟩=false:=by simp[World.frozen?,H.out.out.h2]
      have y2:=af _ H.out.out.h2 2 _ rfl;have g2:W₂.frozen? ⟨X+1+1,2,none⟩=false:=by simp[World.frozen?,H.out.out.h2]
      have y3:=af _ H.out.out.h2 3 _ rfl;have g3:W₂.frozen? ⟨X+1+1,3,none⟩=false:=by simp[World.frozen?,H.out.out.h2]
      have y4:=af _ H.out.out.h3 0 _ rfl;have g4:W₂.frozen? ⟨X+1+1+1,0,none⟩=false:=by simp[World.frozen?,H.out.out.h3]
      gi_wp2_with fail;refine⟨_,LU (RdStep.refl _ W₂) H.out.s2 H.out.s3 3 qm mt (.slice none 0 0) 0,λk e=>.inl e,λk e=>by have h1:=gN.out k e;have h3:=T8 W₂ X 3 qm mt (.slice none 0 0) 0;exact lqQ h1 (Nat.le_of_eq h3.symm),rfl,H.out.s2,H.out.s3,3,qm,mt,0,H.out.out.out 3 qm mt (.slice none 0 0) 0,?_,N7.out.2,GH H.out.bel _ _ _ _ _⟩;rw[H.out.val _ Ez.out];rw[N7.out.1];rfl
     | set y=>
      obtain⟨ee,tA,rfl⟩:=KX;obtain⟨ys,dA,dn,dc,gA,gn,gc,rfl,Gs,Gt,xB,nE,hyd,hyg⟩:=kr tA;have Nw:=jq tA;have oe:=jq (And.intro Gs (And.intro Gt (And.intro xB nE)));clear tA Gs Gt xB nE hyd hyg;gi_wp2_with fail;obtain⟨w1t,qS⟩:=aaK (W.alloc (.cells #[.int .i64 0,.string ys,.int .i64 y.set.type,.int .i64 y.set.life,.slice dA dn dc,.slice gA gn gc,.string ⟨#[]⟩,.int .i64 0] 85));rw[qS];have xq:Below W.heap.size W w1t:=by rw[<-qS];exact aG _ _
      have Cw:w1t.heap[W.heap.size]?=some (.cells [Value.int .i64 0,.string ys,.int .i64 y.set.type,.int .i64 y.set.life,.slice dA dn dc,.slice gA gn gc,.string ⟨#[]⟩,.int .i64 0].toArray 85 (0,0)):=by rw[<-qS];exact heap_alloc_new _ _
      have Af:w1t.heap.size=W.heap.size+1:=by rw[<-qS];simp
      have H1:=jq (h0.box xq (T:=W.heap.size) (by omega) (by omega));have I9:=jq Cw;have AP:=jq xq;have pZ:=jq Af;have BK:=jq fG;clear xq Cw Af h0 fG qS;refine⟨λk=>S k\/k=W.heap.size,RdStep.of_below AP.out,λk e=>e.imp id (λh=>Nat.le_of_eq h.symm),λk e=>e.elim (λe=>by have h1:=BK.out k e;have h2:=pZ.out;omega) (λe=>by have h2:=pZ.out;omega),?_⟩;intro l W₂ aH;have iK:=(aH.keep W.heap.size (by have:=pZ.out;omega) (.inr (.inr rfl))).trans I9.out;have h:=H1.out.it (B:=w11.heap.size) (bq:=G+1+1) (by omega) (by omega) (by omega) (by rw[HX.out];exact bQ _) (by omega) (by omega) aH;have gN:Hid (∀ k,(S k\/k=W.heap.size)->k<W₂.heap.size):=jq (λk e=>e.elim (λe=>by have h1:=BK.out k e;have h2:=pZ.out;have h3:=aH.size;omega) (λe=>by have h2:=pZ.out;have h3:=aH.size;omega));have bL:W.heap.size<W₂.heap.size:=gN.out _ (.inr rfl);have H:=jq h;have p0:=af _ iK 0 _ rfl;have p1:=af _ iK 1 _ rfl;have p2:=af _ iK 2 _ rfl;have p3:=af _ iK 3 _ rfl;have p4:=af _ iK 4 _ rfl;have p5:=af _ iK 5 _ rfl;have p6:=af _ iK 6 _ rfl;have p7:=af _ iK 7 _ rfl;have Ov:=jq iK;clear aH h iK;have j0:=af _ H.out.ce 0 _ rfl;have j1:=af _ H.out.ce 1 _ rfl;have j2:=af _ H.out.ce 2 _ rfl;have j3:=af _ H.out.ce 3 _ rfl;have j4:=af _ H.out.ce 4 _ rfl;have j5:=af _ H.out.ce 5 _ rfl;have j6:=af _ H.out.ce 6 _ rfl;have j7:=af _ H.out.ce 7 _ rfl;obtain⟨m,hm⟩:=aaK good.length;obtain⟨oA,oc,rfl⟩:=H.out.ow.formN hm;have oS:=jq hm;have hm4:m<=410:=by have:=H.out.len;omega
      have PE:Hid (az w X [.string ys,.int .i64 y.set.type,.int .i64 y.set.life,.slice dA dn dc,.slice gA gn gc] y):=jq (btQ Nw.out D5.out);clear hm;gi_wp2_with fail;clear j0 j1 j2 j3 j4 j5 j6 j7;refine⟨trivial,rfl,?_⟩;have hv:=bKZ (.slice A N C) (.slice aA aN aC) known (by omega) r an anchor gZ.out tr at' dr y [.string ys,.int .i64 y.set.type,.int .i64 y.set.life,.slice dA dn dc,.slice gA gn gc] W₂ ((eS.out.keep H.out.bel).more (by omega)) ((HK.out.keep ax H.out.bel).more aK (by omega)) ((nf.out.keep bM H.out.bel).more bY (by omega)) (aK _ _ _ _ _ (ax _ _ _ _ _ PE.out H.out.bel) (by omega));rw[H6.out] at hv;refine (CallsIn.inRound l (callsIn_wide.2 hv)).mono ?_;clear hv;rintro e wl ⟨ql,rfl,Db,SJ,cO⟩;obtain⟨P1,J8⟩:=aaK ((Np.mY known anchor at' dr y).1);obtain⟨P3,J9⟩:=aaK ((Np.mY known anchor at' dr y).2.2);rw[J8,J9];have yR:=jq (And.intro J8 (And.intro J9 (And.intro Db SJ)));have hzl:=cO.size;obtain⟨wq,Gm⟩:=aaK (wl.alloc (.cells #[.string ql,.int .i64 P3] 27));have dT:Below wl.heap.size wl wq:=by rw[<-Gm];exact aG _ _
      have hzq:=dT.size;have uh:Hid (Below W₂.heap.size W₂ wq):=jq (cO.trans (dT.mono hzl));have pq:=de (r:=[.string ql,.int .i64 P3]) rfl Gm;have k0:=pq 0 _ rfl;have k1:=pq 1 _ rfl;have pT:=jq (H.out.out.keep uh.out (gN.out _ H.out.s3));have I8:=jq ((uh.out.block W.heap.size bL).trans Ov.out);have Xj:=jq ((uh.out.block G (gN.out _ H.out.sg)).trans H.out.cg);clear cO dT pq J8 J9 Db SJ p0 p1 p2 p3 p4 p5 p6 p7;by_cases cJ:P1=1
      case neg=>
       have tR:(P1 == 1)=false:=by simpa using cJ
       have eM:=jq cJ;clear cJ;have y0:=af _ pT.out.h2 0 _ rfl;have g0:wq.frozen? ⟨X+1+1,0,none⟩=false:=by simp[World.frozen?,pT.out.h2]
       have y1:=af _ pT.out.h2 1 _ rfl;have g1:wq.frozen? ⟨X+1+1,1,none⟩=false:=by simp[World.frozen?,pT.out.h2]
       have y2:=af _ pT.out.h2 2 _ rfl;have g2:wq.frozen? ⟨X+1+1,2,none⟩=false:=by simp[World.frozen?,pT.out.h2]
       have y3:=af _ pT.out.h2 3 _ rfl;have g3:wq.frozen? ⟨X+1+1,3,none⟩=false:=by simp[World.frozen?,pT.out.h2]
       have y4:=af _ pT.out.h3 0 _ rfl;have g4:wq.frozen? ⟨X+1+1+1,0,none⟩=false:=by simp[World.frozen?,pT.out.h3]
       gi_wp2_with fail;clear Gm;gi_wp2_with fail;refine⟨_,LU (RdStep.of_below uh.out) H.out.s2 H.out.s3 P1 ql P3 (.slice none 0 0) 0,λk e=>.inl e,λk e=>by have h1:=gN.out k e;have h3:=T8 wq X P1 ql P3 (.slice none 0 0) 0;exact lqQ (lqQ h1 uh.out.size) (Nat.le_of_eq h3.symm),rfl,H.out.s2,H.out.s3,P1,ql,P3,0,pT.out.out P1 ql P3 (.slice none 0 0) 0,?_,yR.out.2.2.2,GH (H.out.bel.trans (uh.out.abQ)) _ _ _ _ _⟩;rw[H.out.val _ Ez.out,Np.t6,Qc (by rw[yR.out.1];exact eM.out),yR.out.1,yR.out.2.2.1,<-yR.out.2.1]
       done
      have tR:(P1 == 1)=true:=by simpa using cJ
      have eM:Hid ((Np.mY known anchor at' dr y).1=1):=jq (by rw[yR.out.1];exact cJ);clear cJ;gi_wp2_with fail;clear Gm;gi_wp2_with fail;obtain⟨wU,Dp⟩:=aaK wq.drew;have FI:Below wq.heap.size wq wU:=by rw[<-Dp];exact (vQ _ _).drew
      have Tm:wU.heap.size=wq.heap.size:=by rw[<-Dp];rfl
      have rn:Hid (Below W₂.heap.size W₂ wU):=jq (uh.out.trans (FI.mono uh.out.size));have zx:=(FI.block W.heap.size (by omega)).trans I8.out;have J3:=(FI.block G (by omega)).trans Xj.out;have f1:=af _ zx 1 _ rfl;have f2:=af _ zx 2 _ rfl;have f3:=af _ zx 3 _ rfl;have f4:=af _ zx 4 _ rfl;have f5:=af _ zx 5 _ rfl;have c0:=af _ J3 0 _ rfl;have Xl:=jq J3;have hU2:W₂.heap.size<=wU.heap.size:=by omega
      obtain⟨M,hM⟩:∃ M:Nat->Prop,M=λk=>JMs X G (.slice oA m oc) (λk=>S k\/k=W.heap.size) k/\k<W₂.heap.size:=⟨_,rfl⟩;have X5:=jq hM;have XY:Hid (∀ k,M k->k<W₂.heap.size):=jq (λk e=>by rw[hM] at e;exact e.2);have Ye:Hid (em az 5 44 (G+1) M wU (.slice oA m oc) good):=jq (by rw[hM];exact (H.out.ow.trim ax eB aK).keep ax eB aK rn.out);have iX:Hid (SlR cm 3 wU wU.heap.size (.slice dA dn dc) y.set.data/\SlR en 6 wU wU.heap.size (.slice gA gn gc) y.sigs):=jq (by
       obtain⟨s',v',u',_,_,h3,h4,h5⟩:=PE.out;simp only[List.cons.injEq,and_true] at h5;obtain⟨_,_,_,rfl,rfl⟩:=h5;have aT:Below X w wU:=H.out.bel.trans (rn.out.abQ);exact⟨(h3.keep bM aT).more bY (by omega),(h4.keep dG aT).more el (by omega)⟩)
      have er:=ry.out y (cV.out y (by rw[Ez.out];simp));have EL:=jq er;obtain⟨is0,hsi,K9,qQ,oE⟩:=info_parts Tryz.infoSgn5;have Jh:=jq bL;clear FI zx J3 hM er k0 k1;refine MD λa0 bD=>?_;have jt:=jq bD;have fy:=jq (show a0.eval (.tmp 13) = .pointer (some ⟨G,0,none⟩) by rw[bD];rfl);have iW:=jq (show a0.eval (.tmp 14) = .pointer (some ⟨W.heap.size,0,none⟩) by rw[bD];rfl);have HM:=jq (show a0.tmps.size=97 by rw[bD];rfl);clear bD;obtain⟨T,hT⟩:=aaK W.heap.size;rw[hT] at iW f1 f2 f3 f4 f5;have hT2:T<wU.heap.size:=by omega
      refine Vt (by kernel_rfl) (by kernel_rfl) (by rintro⟨_,_,h⟩;exact h) ?_
      try rw[show ({ heap:=wq.heap,tape:=wq.tape,drawn:=wq.drawn+1,os:=wq.os,output:=wq.output } : World)=wU from Dp]
      try rw[Dp]
      clear Dp;refine cM 3 (D:=[0,1,2]) (val:=lu T oA m oc ys y.set.type y.set.life dA dn dc gA gn gc undef undef undef) vD x8 (rR HM.out) (by kernel_rfl) ?_ ?_
      ·intro i au aI o ho a' hb ao;have k13':=adJ hb fy.out;have k14':=adJ hb iW.out;simp[Act.eval] at k13' k14'
       repeat' (rcases au with _ | ⟨_,au⟩)
       all_goals first
        | (exfalso;simp at aI;done)
        | (cases ho
           try simp[Act.eval,Region.binds,lu,nP] at ao
           refine cC (by simp[Region.wanted]) ?_;simp[Oper.quietAt,Oper.quietUpon,execOp,go_sem,lu,k13',k14',f1,f2,f3,f4,f5,c0,ao])
      ·intro f listed a' hH hr hv;have av2:=hv 2;simp[Act.eval,lu,nP] at av2;simp only[wpOp];simp[Region.wanted];refine .inl ?_;simp[Oper.wp,go_sem,av2];refine (P6 ys y.set.type y.set.life _ y.set.data _ y.sigs (by have:=EL.out.1;omega) (by have:=EL.out.2;omega) wU iX.out.1 iX.out.2).mono ?_;rintro e wC ⟨dv2,gv2,rfl,ke,oq⟩;have Tl:=oq.size;replace f1:=aaQ oq f1;replace f2:=aaQ oq f2;replace f3:=aaQ oq f3;replace f4:=aaQ oq f4;replace f5:=aaQ oq f5;replace c0:=aaQ oq c0;have mw:Hid (G5 wU.heap.size wC dv2 gv2 y.set.data y.sigs):=jq ke;obtain⟨dA2,dc2,rfl,_,_⟩:=ba ((ke (λ_=>False) (λ_ e=>e.elim)).1);obtain⟨gA2,gc2,rfl,_,_⟩:=ba ((ke (λ_=>False) (λ_ e=>e.elim)).2);rw[oe.out.2.2.1,oe.out.2.2.2] at mw |-;have jP:=jq oq;clear ke oq;dsimp only;refine cM 4 (D:=[0,1,2,3]) (val:=lu T oA m oc ys y.set.type y.set.life dA dn dc gA gn gc (.agg #[.string ys,.int .i64 y.set.type,.int .i64 y.set.life,.slice dA2 dn dc2,.slice gA2 gn gc2]) undef undef) vD x8 (hH.next vD x8 hr) (by kernel_rfl) ?_ ?_
       ·intro i au aI o ho a' hb ao;have k13':=adJ hb fy.out;have k14':=adJ hb iW.out;simp[Act.eval] at k13' k14'
        repeat' (rcases au with _ | ⟨_,au⟩)
        all_goals first
         | (exfalso;simp at aI;done)
         | (cases ho
            try simp[Act.eval,Region.binds,lu,nP] at ao
            refine cC (by simp[Region.wanted]) ?_;simp[Oper.quietAt,Oper.quietUpon,execOp,go_sem,lu,k13',k14',f1,f2,f3,f4,f5,c0,ao])
       ·intro f listed a' hH hr hv;have av3:=hv 3;simp[Act.eval,lu,nP] at av3;simp only[wpOp];simp[Region.wanted];refine .inl ?_;simp[Oper.wp,execOp,go_sem,av3];obtain⟨wX,xW⟩:=aaX (wC.alloc (.cells #[.string ys,.int .i64 y.set.type,.int .i64 y.set.life,.slice dA2 dn dc2,.slice gA2 gn gc2] 44));rw[<-xW];have kT:Below wC.heap.size wC wX:=by rw[xW];exact aG _ _
        have CB:fm wX wC.heap.size 0 [.string ys,.int .i64 y.set.type,.int .i64 y.set.life,.slice dA2 dn dc2,.slice gA2 gn gc2]:=E7 (w:=wC) _ _ rfl xW;have Ly:=kT.size;replace f1:=aaQ kT f1;replace f2:=aaQ kT f2;replace f3:=aaQ kT f3;replace f4:=aaQ kT f4;replace f5:=aaQ kT f5;replace c0:=aaQ kT c0;have A9:=jq CB;have g8:=jq (jP.out.trans (kT.mono Tl));have BA:=jq (Ye.out.keep ax eB aK g8.out);have mA:Hid (az (cU wX M) wX.heap.size [.string ys,.int .i64 y.set.type,.int .i64 y.set.life,.slice dA2 dn dc2,.slice gA2 gn gc2] y):=jq (by
         have h1:=mw.out M (λk hk=>by have:=XY.out k hk;omega);have h2:=(Leaves'.of_below (M:=M) kT).slr bM m8 bY h1.1;have h3:=(Leaves'.of_below (M:=M) kT).slr dG oJ el h1.2;exact⟨ys,_,_,oe.out.1,oe.out.2.1,h2,h3,rfl⟩)
        clear xW kT CB;refine cM 5 (D:=[0,1,2,3,4]) (val:=lu T oA m oc ys y.set.type y.set.life dA dn dc gA gn gc (.agg #[.string ys,.int .i64 y.set.type,.int .i64 y.set.life,.slice dA2 dn dc2,.slice gA2 gn gc2]) (.slice (some ⟨wC.heap.size,0,none⟩) 1 1) undef) vD x8 (hH.next vD x8 hr) (by kernel_rfl) ?_ ?_
        ·intro i au aI o ho a' hb ao;have k13':=adJ hb fy.out;have k14':=adJ hb iW.out;simp[Act.eval] at k13' k14'
         repeat' (rcases au with _ | ⟨_,au⟩)
         all_goals first
          | (exfalso;simp at aI;done)
          | (cases ho
             try simp[Act.eval,Region.binds,lu,nP] at ao
             refine cC (by simp[Region.wanted]) ?_;simp[Oper.quietAt,Oper.quietUpon,execOp,go_sem,lu,k13',k14',f1,f2,f3,f4,f5,c0,ao])
        ·intro f listed a' hH hr hv;have av0:=hv 0;have av4:=hv 4;simp[lu,nP] at av0 av4;simp only[wpOp];simp[Region.wanted];refine .inl ?_;refine Vy (R:=az) (M:=M) wX (.tmp 89) (.tmp 93) 22 rfl (G+1) 44 is0 (.agg #[.string ⟨#[]⟩,.int .i64 0,.int .i64 0,.slice none 0 0,.slice none 0 0]) 80 underlying22 hsi K9 qQ oE rfl (by decide) (.slice oA m oc) good av0 BA.out (some ⟨wC.heap.size,0,none⟩) 1 [y] av4 (L7 rfl mA.out A9.out) L8 (by rw[oS.out];simp[maxLen];omega) (by rw[oS.out];simp;omega) (by omega) ax eB aK ?_;intro v8 wY kj jk tt;obtain⟨A8,c8,rfl⟩:=kj.formN (n:=m+1) (by rw[List.length_append,oS.out];rfl);have Tn:=jk.size;have Sz:∀ j,(Value.slice oA m oc).ownBlock=some j->G+1<=j:=λj e=>(BA.out.lt j e).1;have KG:wY.heap[G]?=wX.heap[G]?:=jk.block _ (by omega) (λe=>by have:=Sz _ e.symm;omega);replace c0:=(iQ (a:=⟨G,0,none⟩) KG).trans c0;have zD:wY.heap[T]?=wX.heap[T]?:=jk.block _ (by omega) (λe=>by have:=Eo.out _ e.symm;omega);replace f1:=(iQ (a:=⟨T,1,none⟩) zD).trans f1;replace f2:=(iQ (a:=⟨T,2,none⟩) zD).trans f2;replace f3:=(iQ (a:=⟨T,3,none⟩) zD).trans f3;replace f4:=(iQ (a:=⟨T,4,none⟩) zD).trans f4;replace f5:=(iQ (a:=⟨T,5,none⟩) zD).trans f5;have Xm:=jq (KG.trans ((g8.out.block G (by omega)).trans Xl.out));have H8:=jq (And.intro kj (And.intro jk tt));clear kj jk tt KG Sz zD;refine cM 6 (D:=[0,1,2,3,4,5]) (val:=lu T oA m oc ys y.set.type y.set.life dA dn dc gA gn gc (.agg #[.string ys,.int .i64 y.set.type,.int .i64 y.set.life,.slice dA2 dn dc2,.slice gA2 gn gc2]) (.slice (some ⟨wC.heap.size,0,none⟩) 1 1) (.slice A8 (m+1) c8)) vD x8 (hH.next vD x8 hr) (by kernel_rfl) ?_ ?_
         ·intro i au aI o ho a' hb ao;have k13':=adJ hb fy.out;have k14':=adJ hb iW.out;simp[Act.eval] at k13' k14'
          repeat' (rcases au with _ | ⟨_,au⟩)
          all_goals first
           | (exfalso;simp at aI;done)
           | (cases ho
              try simp[Act.eval,Region.binds,lu,nP] at ao
              refine cC (by simp[Region.wanted]) ?_;simp[Oper.quietAt,Oper.quietUpon,execOp,go_sem,lu,k13',k14',f1,f2,f3,f4,f5,c0,ao])
         ·intro f listed a' hH hr hv;have av5:=hv 5;simp[Act.eval,lu,nP] at av5;simp only[wpOp];simp[Region.wanted];refine .inl ?_;have cf:wY.frozen? ⟨G,0,none⟩=false:=by simp[World.frozen?,Xm.out]
          have k13':=(aM hH.good.base (j:=13) (by decide) (by decide)).trans fy.out;simp[Act.eval] at k13';simp[Oper.wp,execOp,go_sem,av5,c0,cf,k13'];refine nU hH hr HM.out vD (by kernel_rfl) λeO=>?_
          ·rw[eO,jt.out];simp[kq,Act.put,lu,nP];clear hv hH eO c0 cf k13';gi_wp2_with fail;have h8:=H8.out;rw[X5.out] at h8;exact JSt.push (x:=(_,.set y)) H.out (rn.out.trans (g8.out.mono hU2)) h8.1 h8.2.1 h8.2.2 gN.out (by omega) (by omega) eM.out rfl
end
namespace Np
open Go.RowKit
def DN(name:List UInt8)(kind n m:Int)(zone:List UInt8)(key:Int):Signed:=
 ⟨⟨name,kind,60,[⟨[],n,m⟩]⟩,[⟨zone,key,1,0,100,m9 ⟨name,kind,60,[⟨[],n,m⟩]⟩ ⟨zone.toArray⟩ key 1 0 100⟩]⟩
def ex0:Signed:=DN [46] 7 1 1 [46] 1
def ex1:Signed:=DN [120] 6 3 1 [46] 1
def ex2:Signed:=DN [120] 7 3 1 [120] 3
def ex3:Signed:=DN [119,46,120] 1 7 0 [120] 3
def exR:DSet:=(DN [46] 6 1 1 [46] 1).set
def exB(sum:Int):Signed:=⟨ex3.set,[⟨[120],3,1,0,100,sum⟩]⟩
def Fe:Int:=(m9 ex3.set ⟨#[120]⟩ 3 1 0 100+1) % 18446744073709551616
set_option maxRecDepth 100000
theorem axJ:mX [ex0,ex1,ex2,ex3] exR [119,46,120] 1 50 5=(⟨1,([],0),[ex3]⟩,0):=by
 rw[Ai (by kernel_rfl) (by kernel_rfl) rfl rfl (by kernel_rfl) (by kernel_rfl)]
 kernel_rfl
theorem JG:mX [ex0,ex1,ex3] exR [119,46,120] 1 50 5=(⟨3,([120],7),[]⟩,0):=by
 rw[Ai (by kernel_rfl) (by kernel_rfl) rfl rfl (by kernel_rfl) (by kernel_rfl)]
 kernel_rfl
theorem axY:mX [ex0,ex1,ex2] exR [119,46,120] 1 50 5=(⟨3,([119,46,120],1),[]⟩,0):=by
 rw[Ai (by kernel_rfl) (by kernel_rfl) rfl rfl (by kernel_rfl) (by kernel_rfl)]
 kernel_rfl
theorem axZ:mX [ex0,ex1,ex2,ex3] exR [119,46,120] 1 96 5=(⟨2,([],0),[]⟩,0):=by
 rw[Ai (by kernel_rfl) (by kernel_rfl) rfl rfl (by kernel_rfl) (by kernel_rfl)]
 kernel_rfl
theorem axQ:mX [ex0,ex1,ex2,exB Fe] exR [119,46,120] 1 50 5=(⟨2,([],0),[]⟩,0):=by
 rw[Ai (by kernel_rfl) (by kernel_rfl) rfl rfl (by kernel_rfl) (by kernel_rfl)]
 kernel_rfl
theorem Qy:mX [ex0,ex1,ex2,ex3] ex1.set [99,46,121,46,120] 1 50 5=(⟨0,([],0),[]⟩,1):=TG (.inr (.inr (.inr (by decide))))
def rfS:Signed:=⟨⟨[121,46,120],2,0,[⟨[97,46,121,46,120],0,0⟩]⟩,[]⟩
def rfA:Signed:=⟨⟨[97,46,121,46,120],1,0,[⟨[],1,0⟩]⟩,[]⟩
def rfB:Signed:=⟨⟨[98,46,121,46,120],1,0,[⟨[],2,0⟩]⟩,[]⟩
def rb:Ans:=⟨4,[rfS,rfA,rfB],[121,46,120]⟩
theorem bsQ:nt [120] [99,46,121,46,120] 1 rb=([rfS,rfA],0):=by
 rw[JL (by kernel_rfl) (by kernel_rfl) (by kernel_rfl)]
 kernel_rfl
theorem brY:nt [121,46,120] [99,46,121,46,120] 1 rb=([],0):=by
 rw[JL (by kernel_rfl) (by kernel_rfl) (by kernel_rfl)]
 kernel_rfl
theorem brX:nt [42] [99,46,121,46,120] 1 rb=([],1):=Fi (.inl (by kernel_rfl))
theorem Qz:oL ex0.set ⟨#[46]⟩ ⟨#[46]⟩ 1 1 0 100=true/\oL ex1.set ⟨#[120]⟩ ⟨#[46]⟩ 1 1 0 100=true/\oL ex2.set ⟨#[120]⟩ ⟨#[120]⟩ 3 1 0 100=true/\oL ex3.set ⟨#[119,46,120]⟩ ⟨#[120]⟩ 3 1 0 100=true/\oL exR ⟨#[46]⟩ ⟨#[46]⟩ 1 1 0 100=true:=
 ⟨by kernel_rfl,by kernel_rfl,by kernel_rfl,by kernel_rfl,by kernel_rfl⟩
end Np
section
open Go.RowKit Go.Shelf
attribute [local go_sem] Oper.semAt_some
structure ExOne(W:World)(db gb:Nat)(n m:Int)(z:ByteArray)(key s:Int):Prop where
 d:W.heap[db]?=some (.cells [Value.string ⟨#[]⟩,.int .i64 n,.int .i64 m].toArray 75 (0,0))
 g:W.heap[gb]?=some (.cells [Value.string z,.int .i64 key,.int .i64 1,.int .i64 0,.int .i64 100,.int .u64 s].toArray 56 (0,0))
theorem ExOne.keep{W W':World}{db gb:Nat}{n m:Int}{z:ByteArray}{key s:Int}(h:ExOne W db gb n m z key s)(hb:Below W.heap.size W W'):ExOne W' db gb n m z key s:=
 ⟨(hb.block db (eQ.1 h.d).1).trans h.d,(hb.block gb (eQ.1 h.g).1).trans h.g⟩
theorem ExOne.rsg{W:World}{db gb:Nat}{n m:Int}{z:ByteArray}{key s:Int}(h:ExOne W db gb n m z key s)(nm:ByteArray)(hn:nm.size<=140737488355328)(hz:z.size<=140737488355328)(k:Int) :
 az W W.heap.size [.string nm,.int .i64 k,.int .i64 60,.slice (some ⟨db,0,none⟩) 1 1,.slice (some ⟨gb,0,none⟩) 1 1] ⟨⟨nm.data.toList,k,60,[⟨[],n,m⟩]⟩,[⟨z.data.toList,key,1,0,100,s⟩]⟩:=by
 have hd:=(eQ.1 h.d).1;have hg:=(eQ.1 h.g).1;refine⟨nm,_,_,rfl,hn,⟨_,1,rfl,by simp,by simp,λi x hx=>?_⟩,⟨_,1,rfl,by simp,by simp,λi x hx=>?_⟩,rfl⟩
 ·match i,hx with
  | 0,hx=>
   cases hx
   exact⟨db,0,[Value.string ⟨#[]⟩,.int .i64 n,.int .i64 m],rfl,hd,rfl,λj u hj=>by have:=af _ h.d j u hj;simpa using this,⟨⟨#[]⟩,rfl,by decide,rfl⟩⟩
 ·match i,hx with
  | 0,hx=>
   cases hx
   exact⟨gb,0,[Value.string z,.int .i64 key,.int .i64 1,.int .i64 0,.int .i64 100,.int .u64 s],rfl,hg,rfl,λj u hj=>by have:=af _ h.g j u hj;simpa using this,⟨z,rfl,hz,rfl⟩⟩
theorem DM(nm z:ByteArray)(hn:nm.size<=140737488355328)(hz:z.size<=140737488355328)(k n m key:Int)(w:World)(hR:cr w w.heap.size)(hs:Np.oL ⟨nm.data.toList,k,60,[⟨[],n,m⟩]⟩ nm z key 1 0 100=true) :
 Calls prog 81 #[.string nm,.int .i64 k,.int .i64 n,.int .i64 m,.string z,.int .i64 key] w λe w'=>∃ db gb,e = .returned (.agg #[.string nm,.int .i64 k,.int .i64 60,.slice (some ⟨db,0,none⟩) 1 1,.slice (some ⟨gb,0,none⟩) 1 1])/\ExOne w' db gb n m z key (Np.m9 ⟨nm.data.toList,k,60,[⟨[],n,m⟩]⟩ z key 1 0 100)/\w.heap.size<=db/\w.heap.size<=gb/\db≠gb/\Below w.heap.size w w':=by
 have HR:=jq hR;have HS:=jq hs;obtain⟨sg,K0⟩:=aaK (Np.m9 ⟨nm.data.toList,k,60,[⟨[],n,m⟩]⟩ z key 1 0 100);rw[K0];have BI:=jq K0;obtain⟨X,hX⟩:=aaK w.heap.size;have HX:=jq hX;obtain⟨w1,ah⟩:=aaK (w.alloc (.cells #[.string ⟨#[]⟩,.int .i64 0,.int .i64 0,.slice none 0 0,.slice none 0 0] 44));obtain⟨w2,ar⟩:=aaK (w1.alloc (.cells #[.string ⟨#[]⟩,.int .i64 n,.int .i64 m] 75));obtain⟨w3,bT⟩:=aaK (w2.alloc (.cells #[.string nm,.int .i64 k,.int .i64 60,.slice (some ⟨X+1,0,none⟩) 1 1] 25));have z1:w1.heap.size=X+1:=by rw[<-ah,<-hX];simp
 have z2:w2.heap.size=X+1+1:=by rw[<-ar];simp[z1]
 have z3:w3.heap.size=X+1+1+1:=by rw[<-bT];simp[z2]
 have av:Below X w w1:=by rw[<-ah,<-hX];exact aG _ _
 have ae:Below w1.heap.size w1 w2:=by rw[<-ar];exact aG _ _
 have aq:Below w2.heap.size w2 w3:=by rw[<-bT];exact aG _ _
 have aw:=jq (av.trans ((ae.abQ).trans (aq.abQ)));have lH:Hid (w3.heap[X]?=some (.cells [Value.string ⟨#[]⟩,.int .i64 0,.int .i64 0,.slice none 0 0,.slice none 0 0].toArray 44 (0,0))):=jq ((aq.block X (by omega)).trans ((ae.block X (by omega)).trans (by rw[<-ah,<-hX];exact heap_alloc_new _ _)));have sM:Hid (w3.heap[X+1]?=some (.cells [Value.string ⟨#[]⟩,.int .i64 n,.int .i64 m].toArray 75 (0,0))):=jq ((aq.block (X+1) (by omega)).trans (by rw[<-ar,<-z1];exact heap_alloc_new _ _));have gk:Hid (w3.heap[X+1+1]?=some (.cells [Value.string nm,.int .i64 k,.int .i64 60,.slice (some ⟨X+1,0,none⟩) 1 1].toArray 25 (0,0))):=jq (by rw[<-bT,<-z2];exact heap_alloc_new _ _);have t0:=af _ gk.out 0 _ rfl;have t1:=af _ gk.out 1 _ rfl;have t2:=af _ gk.out 2 _ rfl;have t3:=af _ gk.out 3 _ rfl;have H7:Hid (SlR cm 3 w3 w3.heap.size (.slice (some ⟨X+1,0,none⟩) 1 1) [⟨[],n,m⟩]):=jq (by
  refine⟨_,1,rfl,by simp,by simp,λi x hx=>?_⟩
  match i,hx with
  | 0,hx=>
   cases hx
   exact⟨X+1,0,[Value.string ⟨#[]⟩,.int .i64 n,.int .i64 m],rfl,by omega,rfl,λj u hj=>by have:=af _ sM.out j u hj;simpa using this,⟨⟨#[]⟩,rfl,by decide,rfl⟩⟩)
 have ju:=jq ((hR.keep (by rw[hX];exact aw.out)).more (show w.heap.size<=w3.heap.size by omega));have uD:Hid (w3.heap.size=X+1+1+1):=jq z3;clear av ae aq hR hs K0;go_enter func81,ntmps81;go_wp2_with fail;clear ah ar;go_wp2_with fail;clear bT;go_wp2_with fail;refine (UP nm hn k 60 _ [⟨[],n,m⟩] z hz key 1 0 100 w3 ju.out H7.out HS.out).mono ?_;rintro e w4 ⟨rfl,aE⟩;rw[BI.out];obtain⟨w5,aS⟩:=aaK (w4.alloc (.cells #[.string z,.int .i64 key,.int .i64 1,.int .i64 0,.int .i64 100,.int .u64 sg] 56));obtain⟨w6,cS⟩:=aaK (w5.alloc (.cells #[.string z,.int .i64 key,.int .i64 1,.int .i64 0,.int .i64 100,.int .u64 sg] 56));have pw:X+1+1+1<=w4.heap.size:=by have:=aE.size;have:=uD.out;omega
 have aO:Below w4.heap.size w4 w5:=by rw[<-aS];exact aG _ _
 have bE:Below w5.heap.size w5 w6:=by rw[<-cS];exact aG _ _
 have z5:w4.heap.size<w5.heap.size:=by rw[<-aS];simp
 have z6:w5.heap.size<w6.heap.size:=by rw[<-cS];simp
 have FG:Below w3.heap.size w3 w6:=aE.trans ((aO.trans (bE.abQ)).mono (by have:=aE.size;omega));have We:=jq FG;have wH:=jq ((aO.block (X+1+1) (by omega)).trans ((aE.block (X+1+1) (by have:=uD.out;omega)).trans gk.out));have u0:=af _ wH.out 0 _ rfl;have u1:=af _ wH.out 1 _ rfl;have u2:=af _ wH.out 2 _ rfl;have u3:=af _ wH.out 3 _ rfl;have p5:=de (r:=[.string z,.int .i64 key,.int .i64 1,.int .i64 0,.int .i64 100,.int .u64 sg]) rfl aS;have v0:=p5 0 _ rfl;have v1:=p5 1 _ rfl;have v2:=p5 2 _ rfl;have v3:=p5 3 _ rfl;have v4:=p5 4 _ rfl;have v5:=p5 5 _ rfl;have jT:=jq ((FG.block X (by have:=uD.out;omega)).trans lH.out);have y0:=af _ jT.out 0 _ rfl;have y1:=af _ jT.out 1 _ rfl;have y2:=af _ jT.out 2 _ rfl;have y3:=af _ jT.out 3 _ rfl;have y4:=af _ jT.out 4 _ rfl;have g0:w6.frozen? ⟨X,0,none⟩=false:=by simp[World.frozen?,jT.out]
 have g1:w6.frozen? ⟨X,1,none⟩=false:=by simp[World.frozen?,jT.out]
 have g2:w6.frozen? ⟨X,2,none⟩=false:=by simp[World.frozen?,jT.out]
 have g3:w6.frozen? ⟨X,3,none⟩=false:=by simp[World.frozen?,jT.out]
 have g4:w6.frozen? ⟨X,4,none⟩=false:=by simp[World.frozen?,jT.out]
 have Nx:Hid (w6.heap[w5.heap.size]?=some (.cells [Value.string z,.int .i64 key,.int .i64 1,.int .i64 0,.int .i64 100,.int .u64 sg].toArray 56 (0,0))):=jq (by rw[<-cS];have h:=BI.out;subst h;exact heap_alloc_new _ _);have sO:=jq ((FG.block (X+1) (by have:=uD.out;omega)).trans sM.out);obtain⟨GB,hGB⟩:=aaK w5.heap.size;rw[hGB] at Nx;have hX5:X+1+1+1<=GB:=by omega
 clear aE aO bE FG p5 t0 t1 t2 t3 z1 z2 z3;go_wp2_with fail;clear aS;go_wp2_with fail;obtain⟨W,hW⟩:=aaK (((((w6.setCell ⟨X,0,none⟩ (.string nm)).setCell ⟨X,1,none⟩ (.int .i64 k)).setCell ⟨X,2,none⟩ (.int .i64 60)).setCell ⟨X,3,none⟩ (.slice (some ⟨X+1,0,none⟩) 1 1)).setCell ⟨X,4,none⟩ (.slice (some ⟨GB,0,none⟩) 1 1));rw[hW];have mJ:W.heap[X]?=some (.cells [Value.string nm,.int .i64 k,.int .i64 60,.slice (some ⟨X+1,0,none⟩) 1 1,.slice (some ⟨GB,0,none⟩) 1 1].toArray 44 (0,0)):=by
  rw[<-hW];exact QK _ _ _ _ _ _ _ _ _ _ jT.out
 have jB:Below X w6 W:=by
  rw[<-hW];exact (((((vQ X w6).setCell (p:=⟨X,0,none⟩) (bQ _) _).setCell (p:=⟨X,1,none⟩) (bQ _) _).setCell (p:=⟨X,2,none⟩) (bQ _) _).setCell (p:=⟨X,3,none⟩) (bQ _) _).setCell (p:=⟨X,4,none⟩) (bQ _) _
 have CS:∀ i,i≠X->W.heap[i]?=w6.heap[i]?:=λi hi=>by
  rw[<-hW];simp[World.setCell,Array.getElem?_modify,Ne.symm hi]
 have c0:=af _ mJ 0 _ rfl;have c1:=af _ mJ 1 _ rfl;have c2:=af _ mJ 2 _ rfl;have c3:=af _ mJ 3 _ rfl;have c4:=af _ mJ 4 _ rfl;refine bodyPost_ret (v:=.agg #[.string nm,.int .i64 k,.int .i64 60,.slice (some ⟨X+1,0,none⟩) 1 1,.slice (some ⟨GB,0,none⟩) 1 1]) (by simp[results,results81,go_sem,c0,c1,c2,c3,c4]) rfl ?_;refine⟨X+1,GB,rfl,⟨(CS _ (by omega)).trans sO.out,(CS _ (by omega)).trans Nx.out⟩,by have:=HX.out;omega,by have:=HX.out;omega,by omega,?_⟩;rw[HX.out];exact (aw.out.trans (We.out.mono (by have:=uD.out;omega))).trans jB
structure ExL(W:World)(L d0 g0 d1 g1 d2 g2 d3 g3:Nat)(s:Int):Prop where
 l:W.heap[L]?=some (.cells [Value.string ⟨#[46]⟩,.int .i64 7,.int .i64 60,.slice (some ⟨d0,0,none⟩) 1 1,.slice (some ⟨g0,0,none⟩) 1 1,.string ⟨#[120]⟩,.int .i64 6,.int .i64 60,.slice (some ⟨d1,0,none⟩) 1 1,.slice (some ⟨g1,0,none⟩) 1 1,.string ⟨#[120]⟩,.int .i64 7,.int .i64 60,.slice (some ⟨d2,0,none⟩) 1 1,.slice (some ⟨g2,0,none⟩) 1 1,.string ⟨#[119,46,120]⟩,.int .i64 1,.int .i64 60,.slice (some ⟨d3,0,none⟩) 1 1,.slice (some ⟨g3,0,none⟩) 1 1].toArray 44 (0,0))
 o0:ExOne W d0 g0 1 1 ⟨#[46]⟩ 1 (Np.m9 Np.ex0.set ⟨#[46]⟩ 1 1 0 100)
 o1:ExOne W d1 g1 3 1 ⟨#[46]⟩ 1 (Np.m9 Np.ex1.set ⟨#[46]⟩ 1 1 0 100)
 o2:ExOne W d2 g2 3 1 ⟨#[120]⟩ 3 (Np.m9 Np.ex2.set ⟨#[120]⟩ 3 1 0 100)
 o3:ExOne W d3 g3 7 0 ⟨#[120]⟩ 3 s
 lt:d0<g3/\g0<g3/\d1<g3/\g1<g3/\d2<g3/\g2<g3/\d3≠g3/\g3<L
section
variable {W W':World} {L d0 g0 d1 g1 d2 g2 d3 g3:Nat} {s:Int}
theorem ExL.keep(h:ExL W L d0 g0 d1 g1 d2 g2 d3 g3 s)(hb:Below W.heap.size W W'):ExL W' L d0 g0 d1 g1 d2 g2 d3 g3 s:=
 ⟨(hb.block L (eQ.1 h.l).1).trans h.l,h.o0.keep hb,h.o1.keep hb,h.o2.keep hb,h.o3.keep hb,h.lt⟩
theorem ExOne.other{db gb g:Nat}{n m:Int}{z:ByteArray}{key s:Int}(h:ExOne W db gb n m z key s)(h1:db≠g)(h2:gb≠g)(q:Nat)(v:Value):ExOne (W.setCell ⟨g,q,none⟩ v) db gb n m z key s:=
 ⟨(wQ _ _ _ _ (λe=>h1 e)).trans h.d,(wQ _ _ _ _ (λe=>h2 e)).trans h.g⟩
theorem ExL.bump(h:ExL W L d0 g0 d1 g1 d2 g2 d3 g3 s)(s':Int):ExL (W.setCell ⟨g3,5,none⟩ (.int .u64 s')) L d0 g0 d1 g1 d2 g2 d3 g3 s':=by
 obtain⟨a0,a1,a2,a3,a4,a5,a6,a7⟩:=h.lt;refine⟨(wQ _ _ _ _ (λe=>by have e':L=g3:=e;omega)).trans h.l,h.o0.other (by omega) (by omega) _ _,h.o1.other (by omega) (by omega) _ _,h.o2.other (by omega) (by omega) _ _,⟨(wQ _ _ _ _ (λe=>a6 e)).trans h.o3.d,?_⟩,h.lt⟩;simp[World.setCell,Array.getElem?_modify,h.o3.g]
theorem ExL.at0(h:ExL W L d0 g0 d1 g1 d2 g2 d3 g3 s):fm W L 0 [.string ⟨#[46]⟩,.int .i64 7,.int .i64 60,.slice (some ⟨d0,0,none⟩) 1 1,.slice (some ⟨g0,0,none⟩) 1 1]/\az W W.heap.size [.string ⟨#[46]⟩,.int .i64 7,.int .i64 60,.slice (some ⟨d0,0,none⟩) 1 1,.slice (some ⟨g0,0,none⟩) 1 1] Np.ex0:=
 ⟨λj u hj=>by have:=af _ h.l (0+j) u (by match j,hj with | 0,hj=>exact hj | 1,hj=>exact hj | 2,hj=>exact hj | 3,hj=>exact hj | 4,hj=>exact hj);simpa using this,h.o0.rsg ⟨#[46]⟩ (by decide) (by decide) 7⟩
theorem ExL.at1(h:ExL W L d0 g0 d1 g1 d2 g2 d3 g3 s):fm W L 5 [.string ⟨#[120]⟩,.int .i64 6,.int .i64 60,.slice (some ⟨d1,0,none⟩) 1 1,.slice (some ⟨g1,0,none⟩) 1 1]/\az W W.heap.size [.string ⟨#[120]⟩,.int .i64 6,.int .i64 60,.slice (some ⟨d1,0,none⟩) 1 1,.slice (some ⟨g1,0,none⟩) 1 1] Np.ex1:=
 ⟨λj u hj=>af _ h.l (5+j) u (by match j,hj with | 0,hj=>exact hj | 1,hj=>exact hj | 2,hj=>exact hj | 3,hj=>exact hj | 4,hj=>exact hj),h.o1.rsg ⟨#[120]⟩ (by decide) (by decide) 6⟩
theorem ExL.at2(h:ExL W L d0 g0 d1 g1 d2 g2 d3 g3 s):fm W L 10 [.string ⟨#[120]⟩,.int .i64 7,.int .i64 60,.slice (some ⟨d2,0,none⟩) 1 1,.slice (some ⟨g2,0,none⟩) 1 1]/\az W W.heap.size [.string ⟨#[120]⟩,.int .i64 7,.int .i64 60,.slice (some ⟨d2,0,none⟩) 1 1,.slice (some ⟨g2,0,none⟩) 1 1] Np.ex2:=
 ⟨λj u hj=>af _ h.l (10+j) u (by match j,hj with | 0,hj=>exact hj | 1,hj=>exact hj | 2,hj=>exact hj | 3,hj=>exact hj | 4,hj=>exact hj),h.o2.rsg ⟨#[120]⟩ (by decide) (by decide) 7⟩
theorem ExL.at3(h:ExL W L d0 g0 d1 g1 d2 g2 d3 g3 s):fm W L 15 [.string ⟨#[119,46,120]⟩,.int .i64 1,.int .i64 60,.slice (some ⟨d3,0,none⟩) 1 1,.slice (some ⟨g3,0,none⟩) 1 1]/\az W W.heap.size [.string ⟨#[119,46,120]⟩,.int .i64 1,.int .i64 60,.slice (some ⟨d3,0,none⟩) 1 1,.slice (some ⟨g3,0,none⟩) 1 1] (Np.exB s):=
 ⟨λj u hj=>af _ h.l (15+j) u (by match j,hj with | 0,hj=>exact hj | 1,hj=>exact hj | 2,hj=>exact hj | 3,hj=>exact hj | 4,hj=>exact hj),h.o3.rsg ⟨#[119,46,120]⟩ (by decide) (by decide) 1⟩
theorem ExL.all(h:ExL W L d0 g0 d1 g1 d2 g2 d3 g3 s):SlR az 5 W W.heap.size (.slice (some ⟨L,0,none⟩) 4 4) [Np.ex0,Np.ex1,Np.ex2,Np.exB s]:=by
 have hl:=(eQ.1 h.l).1;refine⟨_,4,rfl,by simp,by simp,λi x hx=>?_⟩
 match i,hx with
 | 0,hx=>cases hx;exact⟨L,0,_,rfl,hl,rfl,by have:=h.at0.1;simpa using this,h.at0.2⟩
 | 1,hx=>cases hx;exact⟨L,0,_,rfl,hl,rfl,by have:=h.at1.1;simpa using this,h.at1.2⟩
 | 2,hx=>cases hx;exact⟨L,0,_,rfl,hl,rfl,by have:=h.at2.1;simpa using this,h.at2.2⟩
 | 3,hx=>cases hx;exact⟨L,0,_,rfl,hl,rfl,by have:=h.at3.1;simpa using this,h.at3.2⟩
theorem ExL.first(h:ExL W L d0 g0 d1 g1 d2 g2 d3 g3 s):SlR az 5 W W.heap.size (.slice (some ⟨L,0,none⟩) 3 4) [Np.ex0,Np.ex1,Np.ex2]:=by
 have hl:=(eQ.1 h.l).1;refine⟨_,4,rfl,by simp,by simp,λi x hx=>?_⟩
 match i,hx with
 | 0,hx=>cases hx;exact⟨L,0,_,rfl,hl,rfl,by have:=h.at0.1;simpa using this,h.at0.2⟩
 | 1,hx=>cases hx;exact⟨L,0,_,rfl,hl,rfl,by have:=h.at1.1;simpa using this,h.at1.2⟩
 | 2,hx=>cases hx;exact⟨L,0,_,rfl,hl,rfl,by have:=h.at2.1;simpa using this,h.at2.2⟩
theorem ExL.last(h:ExL W L d0 g0 d1 g1 d2 g2 d3 g3 s):SlR az 5 W W.heap.size (.slice (some ⟨L,15,none⟩) 1 1) [Np.exB s]:=by
 have hl:=(eQ.1 h.l).1;refine⟨_,1,rfl,by simp,by simp,λi x hx=>?_⟩
 match i,hx with
 | 0,hx=>cases hx;exact⟨L,15,_,rfl,hl,rfl,by have:=h.at3.1;simpa using this,h.at3.2⟩
end
theorem bsK(w:World)(hR:cr w w.heap.size):Calls prog 82 #[] w λe w'=>∃ db,e = .returned (.agg #[.string ⟨#[46]⟩,.int .i64 6,.int .i64 60,.slice (some ⟨db,0,none⟩) 1 1])/\SlR cm 3 w' w'.heap.size (.slice (some ⟨db,0,none⟩) 1 1) Np.exR.data/\Below w.heap.size w w':=by
 have HR:=jq hR;obtain⟨X,hX⟩:=aaK w.heap.size;have HX:=jq hX;obtain⟨w1,ah⟩:=aaK (w.alloc (.cells #[.string ⟨#[]⟩,.int .i64 0,.int .i64 0,.slice none 0 0] 25));have z1:w1.heap.size=X+1:=by rw[<-ah,<-hX];simp
 have av:Below X w w1:=by rw[<-ah,<-hX];exact aG _ _
 have lH:Hid (w1.heap[X]?=some (.cells [Value.string ⟨#[]⟩,.int .i64 0,.int .i64 0,.slice none 0 0].toArray 25 (0,0))):=jq (by rw[<-ah,<-hX];exact heap_alloc_new _ _);have ay:=jq av;have eS:=jq ((hR.keep (by rw[hX];exact av)).more (show w.heap.size<=w1.heap.size by omega));have tc:=jq z1;clear av hR;go_enter func82,ntmps82;go_wp2_with fail;clear ah;refine (DM ⟨#[46]⟩ ⟨#[46]⟩ (by decide) (by decide) 6 1 1 1 w1 eS.out Np.Qz.2.2.2.2).mono ?_;rintro e w2 ⟨db,gb,rfl,ho,hd,hg,hne,ae⟩;have HO:=jq ho;have bL:X+1<=w2.heap.size:=by have:=ae.size;have:=tc.out;omega
 have am:=jq (ay.out.trans (ae.mono (by have:=tc.out;omega)));have fO:=jq ((ae.block X (by have:=tc.out;omega)).trans lH.out);have hdX:db≠X:=by have:=tc.out;omega
 have R0:gb≠X:=by have:=tc.out;omega
 have hfd:∀ w:World,(Instr.field 44 (.agg #[.string ⟨#[46]⟩,.int .i64 6,.int .i64 60,.slice (some ⟨db,0,none⟩) 1 1,.slice (some ⟨gb,0,none⟩) 1 1]) 0).run prog w = .ok (.agg #[.string ⟨#[46]⟩,.int .i64 6,.int .i64 60,.slice (some ⟨db,0,none⟩) 1 1]) w:=λw=>by kernel_rfl
 have y0:=af _ fO.out 0 _ rfl;have f0:w2.frozen? ⟨X,0,none⟩=false:=by simp[World.frozen?,fO.out]
 have y1:=af _ fO.out 1 _ rfl;have f1:w2.frozen? ⟨X,1,none⟩=false:=by simp[World.frozen?,fO.out]
 have y2:=af _ fO.out 2 _ rfl;have f2:w2.frozen? ⟨X,2,none⟩=false:=by simp[World.frozen?,fO.out]
 have y3:=af _ fO.out 3 _ rfl;have f3:w2.frozen? ⟨X,3,none⟩=false:=by simp[World.frozen?,fO.out]
 clear ae z1 hd hg ho;go_wp2_with fail;obtain⟨W,hW⟩:=aaK ((((w2.setCell ⟨X,0,none⟩ (.string ⟨#[46]⟩)).setCell ⟨X,1,none⟩ (.int .i64 6)).setCell ⟨X,2,none⟩ (.int .i64 60)).setCell ⟨X,3,none⟩ (.slice (some ⟨db,0,none⟩) 1 1));rw[hW];have mJ:W.heap[X]?=some (.cells [Value.string ⟨#[46]⟩,.int .i64 6,.int .i64 60,.slice (some ⟨db,0,none⟩) 1 1].toArray 25 (0,0)):=by
  rw[<-hW];simp[World.setCell,Array.getElem?_modify,fO.out]
 have jB:Below X w2 W:=by
  rw[<-hW];exact ((((vQ X w2).setCell (p:=⟨X,0,none⟩) (bQ _) _).setCell (p:=⟨X,1,none⟩) (bQ _) _).setCell (p:=⟨X,2,none⟩) (bQ _) _).setCell (p:=⟨X,3,none⟩) (bQ _) _
 have CS:∀ i,i≠X->W.heap[i]?=w2.heap[i]?:=λi hi=>by
  rw[<-hW];simp[World.setCell,Array.getElem?_modify,Ne.symm hi]
 have c0:=af _ mJ 0 _ rfl;have c1:=af _ mJ 1 _ rfl;have c2:=af _ mJ 2 _ rfl;have c3:=af _ mJ 3 _ rfl;refine bodyPost_ret (v:=.agg #[.string ⟨#[46]⟩,.int .i64 6,.int .i64 60,.slice (some ⟨db,0,none⟩) 1 1]) (by simp[results,results82,go_sem,c0,c1,c2,c3]) rfl ?_;have ho':ExOne W db gb 1 1 ⟨#[46]⟩ 1 _:=⟨(CS _ hdX).trans HO.out.d,(CS _ R0).trans HO.out.g⟩;obtain⟨_,_,_,_,_,h3,_,h5⟩:=ho'.rsg ⟨#[46]⟩ (by decide) (by decide) 6;simp only[List.cons.injEq,and_true] at h5;obtain⟨_,_,_,rfl,_⟩:=h5;exact⟨db,rfl,h3,by rw[HX.out];exact am.out.trans jB⟩
theorem QA(w:World)(hR:cr w w.heap.size):Calls prog 30 #[] w λe w'=>∃ L d0 g0 d1 g1 d2 g2 d3 g3,e = .returned (.slice (some ⟨L,0,none⟩) 4 4)/\ExL w' L d0 g0 d1 g1 d2 g2 d3 g3 (Np.m9 Np.ex3.set ⟨#[120]⟩ 3 1 0 100)/\w.heap.size<=g3/\Below w.heap.size w w':=by
 have HR:=jq hR;obtain⟨q1,q2,q3,q4,_⟩:=Np.Qz;clear hR;go_enter func30,ntmps30;go_wp2_with fail;refine (DM ⟨#[46]⟩ ⟨#[46]⟩ (by decide) (by decide) 7 1 1 1 w HR.out q1).mono ?_;rintro e w1 ⟨d0,g0,rfl,F6,FQ,hg0,tH,av⟩;have H0:=jq F6;have ay:=jq av;have lH:=jq ((HR.out.keep av).more av.size);have l0:d0<w1.heap.size:=(eQ.1 F6.d).1;have l0':g0<w1.heap.size:=(eQ.1 F6.g).1;clear F6 av;go_wp2_with fail;refine (DM ⟨#[120]⟩ ⟨#[46]⟩ (by decide) (by decide) 6 3 1 1 w1 lH.out q2).mono ?_;rintro e w2 ⟨d1,g1,rfl,F7,mK,dK,CZ,ae⟩;have H1:=jq (And.intro (H0.out.keep ae) F7);have am:=jq (ay.out.trans (ae.mono ay.out.size));have fO:=jq ((lH.out.keep ae).more ae.size);have l1:d1<w2.heap.size:=(eQ.1 F7.d).1;have l1':g1<w2.heap.size:=(eQ.1 F7.g).1;have z2:=ae.size;clear F7 ae;go_wp2_with fail;refine (DM ⟨#[120]⟩ ⟨#[120]⟩ (by decide) (by decide) 7 3 1 3 w2 fO.out q3).mono ?_;rintro e w3 ⟨d2,g2,rfl,qL,iN,fo,mb,aq⟩;have H2:=jq (And.intro (H1.out.1.keep aq) (And.intro (H1.out.2.keep aq) qL));have aw:=jq (am.out.trans (aq.mono am.out.size));have ju:=jq ((fO.out.keep aq).more aq.size);have l2:d2<w3.heap.size:=(eQ.1 qL.d).1;have l2':g2<w3.heap.size:=(eQ.1 qL.g).1;have z3:=aq.size;clear qL aq;go_wp2_with fail;refine (DM ⟨#[119,46,120]⟩ ⟨#[120]⟩ (by decide) (by decide) 1 7 0 3 w3 ju.out q4).mono ?_;rintro e w4 ⟨d3,g3,rfl,nF,RS,ii,tI,aE⟩;have H3:=jq (And.intro (H2.out.1.keep aE) (And.intro (H2.out.2.1.keep aE) (And.intro (H2.out.2.2.keep aE) nF)));have aX:=jq (aw.out.trans (aE.mono aw.out.size));have l3':g3<w4.heap.size:=(eQ.1 nF.g).1;clear nF aE;obtain⟨w5,aS⟩:=aaK (w4.alloc (.cells #[.string ⟨#[46]⟩,.int .i64 7,.int .i64 60,.slice (some ⟨d0,0,none⟩) 1 1,.slice (some ⟨g0,0,none⟩) 1 1,.string ⟨#[120]⟩,.int .i64 6,.int .i64 60,.slice (some ⟨d1,0,none⟩) 1 1,.slice (some ⟨g1,0,none⟩) 1 1,.string ⟨#[120]⟩,.int .i64 7,.int .i64 60,.slice (some ⟨d2,0,none⟩) 1 1,.slice (some ⟨g2,0,none⟩) 1 1,.string ⟨#[119,46,120]⟩,.int .i64 1,.int .i64 60,.slice (some ⟨d3,0,none⟩) 1 1,.slice (some ⟨g3,0,none⟩) 1 1] 44));have aO:Below w4.heap.size w4 w5:=by rw[<-aS];exact aG _ _
 have XL:Hid (w5.heap[w4.heap.size]?=some (.cells [Value.string ⟨#[46]⟩,.int .i64 7,.int .i64 60,.slice (some ⟨d0,0,none⟩) 1 1,.slice (some ⟨g0,0,none⟩) 1 1,.string ⟨#[120]⟩,.int .i64 6,.int .i64 60,.slice (some ⟨d1,0,none⟩) 1 1,.slice (some ⟨g1,0,none⟩) 1 1,.string ⟨#[120]⟩,.int .i64 7,.int .i64 60,.slice (some ⟨d2,0,none⟩) 1 1,.slice (some ⟨g2,0,none⟩) 1 1,.string ⟨#[119,46,120]⟩,.int .i64 1,.int .i64 60,.slice (some ⟨d3,0,none⟩) 1 1,.slice (some ⟨g3,0,none⟩) 1 1].toArray 44 (0,0))):=jq (by rw[<-aS];exact heap_alloc_new _ _);have bx:=jq aO;clear aO;go_wp2_with fail;go_ret;exact⟨w4.heap.size,d0,g0,d1,g1,d2,g2,d3,g3,rfl,⟨XL.out,H3.out.1.keep bx.out,H3.out.2.1.keep bx.out,H3.out.2.2.1.keep bx.out,H3.out.2.2.2.keep bx.out,by omega,by omega,by omega,by omega,by omega,by omega,tI,l3'⟩,by have:=aw.out.size;omega,aX.out.trans (bx.out.mono aX.out.size)⟩
theorem eqQ(a b:ByteArray)(t u:Int)(w:World):(binOp .eql 27 (.agg #[.string a,.int .i64 t]) (.agg #[.string b,.int .i64 u])).run prog w = .ok (.bool (a.toList == b.toList&&t == u)) w:=by
 have u3:=underlying3;have a3:=isAgg3;have z3:=sizeOf3;have u9:=underlying9;have a9:=isAgg9;have z9:=sizeOf9;have hS:prog.underlying 27=some (.struct (prog.fieldsOf 27)):=by kernel_rfl
 have hp:prog.stoodInHeld 27=false:=by kernel_rfl
 rw[run_eql_struct,show (10000:Nat)=9999+1 from rfl,run_equalIn_agg w 9999 27 _ _ hS hp];simp only[Program.fieldsOf,underlying27];go_simp;by_cases h0:a.toList=b.toList<;>by_cases h1:t=u<;>simp[h0,h1]
def jX(W:World)(B:Nat)(e:List Value)(x:Np.Verd):Prop:=∃ (q:ByteArray) (A:Option Addr) (n c:Nat),e = [.int .i64 x.kind,.string q,.int .i64 x.q.2,.slice A n c]/\q.data.toList=x.q.1/\q.size<=140737488355328/\SlR az 5 W B (.slice A n c) x.sets
theorem bwQ:dR jX:=λ_ _ _ _ _ ⟨q,A,n,c,h1,h2,h3,h4⟩ hb=>⟨q,A,n,c,h1,h2,h3,h4.keep ax hb⟩
theorem bwZ:ef jX:=λ_ _ _ _ _ ⟨q,A,n,c,h1,h2,h3,h4⟩ hb=>⟨q,A,n,c,h1,h2,h3,h4.more aK hb⟩
theorem jX.later{w w':World}{e:List Value}{x:Np.Verd}(h:jX w w.heap.size e x)(hb:Below w.heap.size w w'):jX w' w'.heap.size e x:=bwZ _ _ _ _ _ (bwQ _ _ _ _ _ h hb) hb.size
end
section
open Go.RowKit Go.Shelf
attribute [local go_sem] Oper.semAt_some
theorem Np.Fg:∀ y∈[Np.ex0,Np.ex1,Np.ex2,Np.ex3],y.set.data.length<=100000/\y.sigs.length<=100000:=λy hy=>by
 simp only[List.mem_cons,Qh,or_false] at hy;rcases hy with rfl | rfl | rfl | rfl<;>exact⟨show 1<=100000 by decide,show 1<=100000 by decide⟩
theorem Np.JH:∀ y∈[Np.ex0,Np.ex1,Np.ex3],y.set.data.length<=100000/\y.sigs.length<=100000:=λy hy=>by
 simp only[List.mem_cons,Qh,or_false] at hy;rcases hy with rfl | rfl | rfl<;>exact⟨show 1<=100000 by decide,show 1<=100000 by decide⟩
theorem Np.exfn:∀ y∈[Np.ex0,Np.ex1,Np.ex2],y.set.data.length<=100000/\y.sigs.length<=100000:=λy hy=>by
 simp only[List.mem_cons,Qh,or_false] at hy;rcases hy with rfl | rfl | rfl<;>exact⟨show 1<=100000 by decide,show 1<=100000 by decide⟩
theorem Np.exfb(s:Int):∀ y∈[Np.ex0,Np.ex1,Np.ex2,Np.exB s],y.set.data.length<=100000/\y.sigs.length<=100000:=λy hy=>by
 simp only[List.mem_cons,Qh,or_false] at hy;rcases hy with rfl | rfl | rfl | rfl<;>exact⟨show 1<=100000 by decide,show 1<=100000 by decide⟩
theorem Np.Ff:Np.exB (Np.m9 Np.ex3.set ⟨#[120]⟩ 3 1 0 100)=Np.ex3:=rfl
theorem ExL.three{W:World}{L d0 g0 d1 g1 d2 g2 d3 g3 K:Nat}(h:ExL W L d0 g0 d1 g1 d2 g2 d3 g3 (Np.m9 Np.ex3.set ⟨#[120]⟩ 3 1 0 100))(hk:W.heap[K]?=some (.cells [Value.string ⟨#[46]⟩,.int .i64 7,.int .i64 60,.slice (some ⟨d0,0,none⟩) 1 1,.slice (some ⟨g0,0,none⟩) 1 1,.string ⟨#[120]⟩,.int .i64 6,.int .i64 60,.slice (some ⟨d1,0,none⟩) 1 1,.slice (some ⟨g1,0,none⟩) 1 1,.string ⟨#[119,46,120]⟩,.int .i64 1,.int .i64 60,.slice (some ⟨d3,0,none⟩) 1 1,.slice (some ⟨g3,0,none⟩) 1 1].toArray 44 (0,0))):SlR az 5 W W.heap.size (.slice (some ⟨K,0,none⟩) 3 3) [Np.ex0,Np.ex1,Np.ex3]:=by
 have hl:=(eQ.1 hk).1;refine⟨_,3,rfl,by simp,by simp,λi x hx=>?_⟩
 match i,hx with
 | 0,hx=>cases hx;exact⟨K,0,[Value.string ⟨#[46]⟩,.int .i64 7,.int .i64 60,.slice (some ⟨d0,0,none⟩) 1 1,.slice (some ⟨g0,0,none⟩) 1 1],rfl,hl,rfl,λj u hj=>by have:=af _ hk (0+j) u (by match j,hj with | 0,hj=>exact hj | 1,hj=>exact hj | 2,hj=>exact hj | 3,hj=>exact hj | 4,hj=>exact hj);simpa using this,h.at0.2⟩
 | 1,hx=>cases hx;exact⟨K,0,[Value.string ⟨#[120]⟩,.int .i64 6,.int .i64 60,.slice (some ⟨d1,0,none⟩) 1 1,.slice (some ⟨g1,0,none⟩) 1 1],rfl,hl,rfl,λj u hj=>by have:=af _ hk (5+j) u (by match j,hj with | 0,hj=>exact hj | 1,hj=>exact hj | 2,hj=>exact hj | 3,hj=>exact hj | 4,hj=>exact hj);simpa using this,h.at1.2⟩
 | 2,hx=>cases hx;exact⟨K,0,[Value.string ⟨#[119,46,120]⟩,.int .i64 1,.int .i64 60,.slice (some ⟨d3,0,none⟩) 1 1,.slice (some ⟨g3,0,none⟩) 1 1],rfl,hl,rfl,λj u hj=>by have:=af _ hk (10+j) u (by match j,hj with | 0,hj=>exact hj | 1,hj=>exact hj | 2,hj=>exact hj | 3,hj=>exact hj | 4,hj=>exact hj);simpa using this,h.at3.2⟩
theorem GV(x:Np.Verd)(e1 e2:List Value)(w:World)(h1:jX w w.heap.size e1 x)(h2:jX w w.heap.size e2 x) :
 Calls prog 15 #[.agg e1.toArray,.agg e2.toArray] w λe w'=>e = .returned (.bool true)/\Below w.heap.size w w':=by
 obtain⟨q,A,n,c,rfl,hq,dV,hs⟩:=h1;obtain⟨q',A',n',c',rfl,hq',_,hs'⟩:=h2;obtain rfl:q'=q:=iV (by rw[hq,hq']);obtain⟨k,hk⟩:=aaK x.kind;obtain⟨q2,eA⟩:=aaK x.q.2;rw[hk,eA];obtain⟨X,hX⟩:=aaK w.heap.size;obtain⟨w1,ah⟩:=aaK (w.alloc (.cells #[.int .i64 k,.string q',.int .i64 q2,.slice A n c] 33));obtain⟨w2,ar⟩:=aaK (w1.alloc (.cells #[.int .i64 k,.string q',.int .i64 q2,.slice A' n' c'] 33));have av:Below w.heap.size w w1:=by rw[<-ah];exact aG _ _
 have z1:w1.heap.size=X+1:=by rw[<-ah,<-hX];simp
 have ae:Below w1.heap.size w1 w2:=by rw[<-ar];exact aG _ _
 have p:=de (r:=[.int .i64 k,.string q',.int .i64 q2,.slice A n c]) hX ah;have r:=de (r:=[.int .i64 k,.string q',.int .i64 q2,.slice A' n' c']) z1 ar;have p0:=aaQ ae (p 0 _ rfl);have r0:=r 0 _ rfl;have p1:=aaQ ae (p 1 _ rfl);have r1:=r 1 _ rfl;have p2:=aaQ ae (p 2 _ rfl);have r2:=r 2 _ rfl;have p3:=aaQ ae (p 3 _ rfl);have r3:=r 3 _ rfl;have hb:=av.trans (ae.abQ);have HB:=jq hb;have HS:=jq (hs.later ax aK hb);have HS':=jq (hs'.later ax aK hb);have r9:∀ w:World,(binOp .eql 27 (.agg #[.string q',.int .i64 q2]) (.agg #[.string q',.int .i64 q2])).run prog w = .ok (.bool true) w:=λw=>by rw[eqQ];simp
 clear av ae p r hb hs hs' hq hq' hk eA;go_enter func15,ntmps15;go_wp2_with fail;clear ah;go_wp2_with fail;clear ar;go_wp2_with fail;refine (GU _ _ x.sets w2 HS.out HS'.out).mono ?_;rintro e w3 ⟨rfl,aq⟩;have aw:=jq (HB.out.trans (aq.mono HB.out.size));clear aq;go_wp2_with fail;go_ret;exact⟨rfl,aw.out⟩
def eo(L d0 g0 d1 g1 d2 g2 d3 g3:Nat)(e9:Value)(e10:Value)(e11:Value)(i:Nat):Value:=[.slice (some ⟨L,0,none⟩) 4 4,.pointer (some ⟨L,0,none⟩),.agg #[.string ⟨#[46]⟩,.int .i64 7,.int .i64 60,.slice (some ⟨d0,0,none⟩) 1 1,.slice (some ⟨g0,0,none⟩) 1 1],.slice (some ⟨L,0,none⟩) 4 4,.pointer (some ⟨L,5,none⟩),.agg #[.string ⟨#[120]⟩,.int .i64 6,.int .i64 60,.slice (some ⟨d1,0,none⟩) 1 1,.slice (some ⟨g1,0,none⟩) 1 1],.slice (some ⟨L,0,none⟩) 4 4,.pointer (some ⟨L,15,none⟩),.agg #[.string ⟨#[119,46,120]⟩,.int .i64 1,.int .i64 60,.slice (some ⟨d3,0,none⟩) 1 1,.slice (some ⟨g3,0,none⟩) 1 1],e9,e10,e11,undef].getD i undef
def gR(i:Nat):Nat:=[23,24,25,26,27,28,29,30,31,32,33,3,0].getD i 0
def aLK:List Nat:=[0,1,2,3,4,5,6,7,8,9,10,11].map gR
theorem jj:∀ i∈[0,1,2,3,4,5,6,7,8,9,10,11],gR i<157/\gR i∈aLK:=by decide
theorem kW:∀ i∈[0,1,2,3,4,5,6,7,8,9,10,11],∀ j∈[0,1,2,3,4,5,6,7,8,9,10,11],j≠i->gR i≠gR j:=by decide
def Hd3(a0:Act)(L d0 g0 d1 g1 d2 g2 d3 g3:Nat)(w3:World)(ex:Exit)(a':Act)(w':World):Prop:=
 ∃ (K b3:Nat) (q3:ByteArray) (A3:Option Addr) (n3 m3:Nat),ex = .normal/\a'=kq a0 ([0,1,2,3,4,5,6,7,8,9,10,11].map λi=>(gR i,eo L d0 g0 d1 g1 d2 g2 d3 g3 (.slice (some ⟨K,0,none⟩) 3 3) (.agg #[.int .i64 3,.string q3,.int .i64 7,.slice A3 n3 m3]) (.pointer (some ⟨b3,0,none⟩)) i))/\
   w'.heap[b3]?=some (.cells [Value.int .i64 3,.string q3,.int .i64 7,.slice A3 n3 m3].toArray 33 (0,0))/\jX w' w'.heap.size [.int .i64 3,.string q3,.int .i64 7,.slice A3 n3 m3] ⟨3,([120],7),[]⟩/\Below w3.heap.size w3 w'
structure RefRow(W:World)(RW D1 D2 D3:Nat):Prop where
 r:W.heap[RW]?=some (.cells [Value.string ⟨#[121,46,120]⟩,.int .i64 2,.int .i64 0,.slice (some ⟨D1,0,none⟩) 1 1,.slice none 0 0,.string ⟨#[97,46,121,46,120]⟩,.int .i64 1,.int .i64 0,.slice (some ⟨D2,0,none⟩) 1 1,.slice none 0 0,.string ⟨#[98,46,121,46,120]⟩,.int .i64 1,.int .i64 0,.slice (some ⟨D3,0,none⟩) 1 1,.slice none 0 0].toArray 44 (0,0))
 d1:W.heap[D1]?=some (.cells [Value.string ⟨#[97,46,121,46,120]⟩,.int .i64 0,.int .i64 0].toArray 75 (0,0))
 d2:W.heap[D2]?=some (.cells [Value.string ⟨#[]⟩,.int .i64 1,.int .i64 0].toArray 75 (0,0))
 d3:W.heap[D3]?=some (.cells [Value.string ⟨#[]⟩,.int .i64 2,.int .i64 0].toArray 75 (0,0))
theorem RefRow.keep{W W':World}{RW D1 D2 D3:Nat}(h:RefRow W RW D1 D2 D3)(hb:Below W.heap.size W W'):RefRow W' RW D1 D2 D3:=
 ⟨(hb.block _ (eQ.1 h.r).1).trans h.r,(hb.block _ (eQ.1 h.d1).1).trans h.d1,(hb.block _ (eQ.1 h.d2).1).trans h.d2,(hb.block _ (eQ.1 h.d3).1).trans h.d3⟩
theorem LR{W:World}{D:Nat}{s:ByteArray}{n m:Int}(hs:s.size<=140737488355328)(h:W.heap[D]?=some (.cells [Value.string s,.int .i64 n,.int .i64 m].toArray 75 (0,0))):SlR cm 3 W W.heap.size (.slice (some ⟨D,0,none⟩) 1 1) [⟨s.data.toList,n,m⟩]:=by
 refine⟨_,1,rfl,by simp,by simp,λi x hx=>?_⟩
 match i,hx with
 | 0,hx=>
  cases hx
  exact⟨D,0,[Value.string s,.int .i64 n,.int .i64 m],rfl,(eQ.1 h).1,rfl,λj u hj=>by have:=af _ h j u hj;simpa using this,⟨s,rfl,hs,rfl⟩⟩
theorem RefRow.at{W:World}{RW D1 D2 D3:Nat}(h:RefRow W RW D1 D2 D3) :
 (fm W RW 0 [.string ⟨#[121,46,120]⟩,.int .i64 2,.int .i64 0,.slice (some ⟨D1,0,none⟩) 1 1,.slice none 0 0]/\az W W.heap.size [.string ⟨#[121,46,120]⟩,.int .i64 2,.int .i64 0,.slice (some ⟨D1,0,none⟩) 1 1,.slice none 0 0] Np.rfS)/\
 (fm W RW 5 [.string ⟨#[97,46,121,46,120]⟩,.int .i64 1,.int .i64 0,.slice (some ⟨D2,0,none⟩) 1 1,.slice none 0 0]/\az W W.heap.size [.string ⟨#[97,46,121,46,120]⟩,.int .i64 1,.int .i64 0,.slice (some ⟨D2,0,none⟩) 1 1,.slice none 0 0] Np.rfA)/\
 (fm W RW 10 [.string ⟨#[98,46,121,46,120]⟩,.int .i64 1,.int .i64 0,.slice (some ⟨D3,0,none⟩) 1 1,.slice none 0 0]/\az W W.heap.size [.string ⟨#[98,46,121,46,120]⟩,.int .i64 1,.int .i64 0,.slice (some ⟨D3,0,none⟩) 1 1,.slice none 0 0] Np.rfB):=by
 refine⟨⟨λj u hj=>by have:=af _ h.r (0+j) u (by match j,hj with | 0,hj=>exact hj | 1,hj=>exact hj | 2,hj=>exact hj | 3,hj=>exact hj | 4,hj=>exact hj);simpa using this,⟨_,_,_,rfl,by decide,LR (by decide) h.d1,jO _ _,rfl⟩⟩,⟨λj u hj=>af _ h.r (5+j) u (by match j,hj with | 0,hj=>exact hj | 1,hj=>exact hj | 2,hj=>exact hj | 3,hj=>exact hj | 4,hj=>exact hj),⟨_,_,_,rfl,by decide,LR (by decide) h.d2,jO _ _,rfl⟩⟩,⟨λj u hj=>af _ h.r (10+j) u (by match j,hj with | 0,hj=>exact hj | 1,hj=>exact hj | 2,hj=>exact hj | 3,hj=>exact hj | 4,hj=>exact hj),⟨_,_,_,rfl,by decide,LR (by decide) h.d3,jO _ _,rfl⟩⟩⟩
theorem RefRow.ans{W:World}{RW D1 D2 D3:Nat}(h:RefRow W RW D1 D2 D3):oW W W.heap.size [.int .i64 4,.slice (some ⟨RW,0,none⟩) 3 3,.string ⟨#[121,46,120]⟩] Np.rb:=by
 have hl:=(eQ.1 h.r).1;refine⟨_,_,⟨_,3,rfl,by decide,by decide,λi x hx=>?_⟩,rfl,by decide,rfl⟩
 match i,hx with
 | 0,hx=>cases hx;exact⟨RW,0,_,rfl,hl,rfl,by have:=h.at.1.1;simpa using this,h.at.1.2⟩
 | 1,hx=>cases hx;exact⟨RW,0,_,rfl,hl,rfl,by have:=h.at.2.1.1;simpa using this,h.at.2.1.2⟩
 | 2,hx=>cases hx;exact⟨RW,0,_,rfl,hl,rfl,by have:=h.at.2.2.1;simpa using this,h.at.2.2.2⟩
theorem RefRow.two{W:World}{RW D1 D2 D3:Nat}(h:RefRow W RW D1 D2 D3):SlR az 5 W W.heap.size (.slice (some ⟨RW,0,none⟩) 2 3) [Np.rfS,Np.rfA]:=by
 have hl:=(eQ.1 h.r).1;refine⟨_,3,rfl,by decide,by decide,λi x hx=>?_⟩
 match i,hx with
 | 0,hx=>cases hx;exact⟨RW,0,_,rfl,hl,rfl,by have:=h.at.1.1;simpa using this,h.at.1.2⟩
 | 1,hx=>cases hx;exact⟨RW,0,_,rfl,hl,rfl,by have:=h.at.2.1.1;simpa using this,h.at.2.1.2⟩
theorem Np.L4:∀ y∈Np.rb.sets,y.set.data.length<=100000/\y.sigs.length<=100000:=λy hy=>by
 have hy:y∈[Np.rfS,Np.rfA,Np.rfB]:=hy;simp only[List.mem_cons,Qh,or_false] at hy;rcases hy with rfl | rfl | rfl<;>exact⟨show 1<=100000 by decide,show 0<=100000 by decide⟩
def mL:Value->Value
 | .tuple xs=>xs.getD 0 undef
 | _=>undef
def mM:Value->Value
 | .tuple xs=>xs.getD 1 undef
 | _=>undef
def fH(L d0 g0 d1 g1 d2 g2 d3 g3 b9:Nat)(e6:Value)(e10:Value)(e11:Value)(i:Nat):Value:=[.slice (some ⟨L,0,none⟩) 4 4,.slice (some ⟨L,0,none⟩) 4 4,.pointer (some ⟨L,5,none⟩),.pointer (some ⟨L,5,none⟩),.agg #[.string ⟨#[120]⟩,.int .i64 6,.int .i64 60,.slice (some ⟨d1,0,none⟩) 1 1],.agg #[.string ⟨#[99,46,121,46,120]⟩,.int .i64 1],e6,e6,mL e6,mM e6,e10,e11,undef].getD i undef
def gF(i:Nat):Nat:=[86,87,88,89,90,91,92,85,93,94,16,0,17].getD i 0
def aLZ:List Nat:=[0,1,2,3,4,5,7,8,9,6,10].map gF
theorem tx:∀ i∈[0,1,2,3,4,5,7,8,9,6,10],gF i<157/\gF i∈aLZ:=by decide
theorem tz:∀ i∈[0,1,2,3,4,5,7,8,9,6,10],∀ j∈[0,1,2,3,4,5,7,8,9,6,10],j≠i->gF i≠gF j:=by decide
def aLJ:List Nat:=[0,1,2,3,4,5,7,8,9,6,10,11].map gF
theorem FT:∀ i∈[0,1,2,3,4,5,7,8,9,6,10,11],gF i<157/\gF i∈aLJ:=by decide
theorem RR:∀ i∈[0,1,2,3,4,5,7,8,9,6,10,11],∀ j∈[0,1,2,3,4,5,7,8,9,6,10,11],j≠i->gF i≠gF j:=by decide
def Hd14(a0:Act)(L d0 g0 d1 g1 d2 g2 d3 g3 b9:Nat)(w3:World)(ex:Exit)(a':Act)(w':World):Prop:=
 ∃ (qg:ByteArray) (Ag:Option Addr) (ng mg E:Nat),ex = .normal/\a'=(kq a0 ([0,1,2,3,4,5,7,8,9,6,10,11].map λi=>(gF i,fH L d0 g0 d1 g1 d2 g2 d3 g3 b9 (.tuple #[.agg #[.int .i64 0,.string qg,.int .i64 0,.slice Ag ng mg],.int .i64 1]) (.pointer (some ⟨E,0,none⟩)) (.bool false) i))).put (some 17) (.int .i64 1)/\Below w3.heap.size w3 w'
theorem Cb{w0 w:World}{n E:Nat}(h:Below n w0 w)(hE:n<=E)(v0 v1 v2 v3:Value) :
 Below n w0 ((((w.setCell ⟨E,0,none⟩ v0).setCell ⟨E,1,none⟩ v1).setCell ⟨E,2,none⟩ v2).setCell ⟨E,3,none⟩ v3):=
 (((h.setCell (p:=⟨E,0,none⟩) hE _).setCell (p:=⟨E,1,none⟩) hE _).setCell (p:=⟨E,2,none⟩) hE _).setCell (p:=⟨E,3,none⟩) hE _
theorem Mt{w:World}{B:Nat}{e:List Value}{k:Int}{q:List UInt8×Int}(h:jX w B e ⟨k,q,[]⟩)(w':World){B':Nat} : jX w' B' e ⟨k,q,[]⟩:=by
 obtain⟨qq,A,n,c,h1,h2,h3,A',c',h4,h5,h6,_⟩:=h;exact⟨qq,A,n,c,h1,h2,h3,A',c',h4,h5,h6,λi x hx=>by simp at hx⟩
end
section
open Go.RowKit Go.Shelf
attribute [local go_sem] Oper.semAt_some
def Np.noNx(known:List Np.Signed):Bool:=known.all λs=>decide (s.set.type≠8)&&decide (s.set.type≠3)&&!Np.dC s.set.name
theorem Np.t7{known:List Np.Signed}(h:Np.noNx known=true):Np.jW known:=λs hs=>by
 have:=List.all_eq_true.1 h s hs
 simp only[Bool.and_eq_true,Bool.not_eq_true',Qa] at this;exact⟨this.1.1,this.1.2,this.2⟩
theorem yc(kv:Value)(known:List Np.Signed)(ey:Hid (Np.jW known))(hkg:Np.qZ known=true)(at':Int)(hat:Np.mo at' 5=true)(x:Np.Verd)(hx:Np.mX known Np.exR [119,46,120] 1 at' 5=(x,0))(w:World)(hR:cr w w.heap.size)(hk:SlR az 5 w w.heap.size kv known)(nK:∀ y∈known,y.set.data.length<=100000/\y.sigs.length<=100000) :
 Calls prog 31 #[kv,.int .i64 at'] w λe w'=>∃ e',e = .returned (.agg e'.toArray)/\jX w' w'.heap.size e' x/\Below w.heap.size w w':=by
 have HK:=jq hk;have Jf:=jq hx;obtain⟨A,N,C,rfl,_,_,_⟩:=cE hk;obtain⟨X,hX⟩:=aaK w.heap.size;have HX:=jq hX;obtain⟨w1,ah⟩:=aaK (w.alloc (.cells #[.int .i64 0,.string ⟨#[]⟩,.int .i64 0,.slice none 0 0] 33));have z1:w1.heap.size=X+1:=by rw[<-ah,<-hX];simp
 have av:Below X w w1:=by rw[<-ah,<-hX];exact aG _ _
 have lH:Hid (w1.heap[X]?=some (.cells [Value.int .i64 0,.string ⟨#[]⟩,.int .i64 0,.slice none 0 0].toArray 33 (0,0))):=jq (by rw[<-ah,<-hX];exact heap_alloc_new _ _);have ay:=jq av;have eS:=jq ((hR.keep (by rw[hX];exact av)).more (show w.heap.size<=w1.heap.size by omega));have tc:=jq z1;have vY:Hid (SlR az 5 w X (.slice A N C) known):=jq (by rw[<-hX];exact hk);have ry:=jq nK;clear av hR hk nK hx;go_enter func31,ntmps31;go_wp2_with fail;clear ah;go_wp2_with fail;refine (bsK w1 eS.out).mono ?_;rintro e w2 ⟨db,rfl,hdr,ae⟩;have bL:X+1<=w2.heap.size:=by have:=ae.size;have:=tc.out;omega
 have am:=jq (ay.out.trans (ae.mono (by have:=tc.out;omega)));have fO:=jq ((ae.block X (by have:=tc.out;omega)).trans lH.out);have YN:=jq ((eS.out.keep ae).more ae.size);have WV:=jq hdr;clear ae z1 hdr;go_wp2_with fail;refine (LE (.slice A N C) known ey ⟨#[46]⟩ ⟨#[119,46,120]⟩ Np.exR rfl (by decide) (.slice (some ⟨db,0,none⟩) 1 1) 1 at' 5 (by decide) w2 YN.out ((vY.out.keep ax am.out).more aK (by omega)) ry.out WV.out (jq ⟨hkg,by kernel_rfl,rfl,by kernel_rfl,hat⟩)).mono ?_;rintro e w3 ⟨qn,vA,vn,vc,rfl,hq,dV,er,aq⟩;rw[show ((⟨#[119,46,120]⟩:ByteArray)).data.toList = [119,46,120] from rfl,Jf.out] at hq er |-;obtain⟨k,hk⟩:=aaK x.kind;obtain⟨q2,eA⟩:=aaK x.q.2;dsimp only;rw[hk,eA];have EQ:=jq (And.intro hk (And.intro eA (And.intro hq dV)));have mh:X+1<=w3.heap.size:=by have:=aq.size;omega
 have aw:=aaZ am aq;have ju:=jq ((aq.block X (by omega)).trans fO.out);have gN:=jq er;clear aq hq er hk eA;obtain⟨w4,di⟩:=aaK (w3.alloc (.cells #[.int .i64 k,.string qn,.int .i64 q2,.slice vA vn vc] 33));have aE:Below w3.heap.size w3 w4:=by rw[<-di];exact aG _ _
 have p4:=de (r:=[.int .i64 k,.string qn,.int .i64 q2,.slice vA vn vc]) rfl di;have v0:=p4 0 _ rfl;have v1:=p4 1 _ rfl;have v2:=p4 2 _ rfl;have v3:=p4 3 _ rfl;have iZ:=jq ((aE.block X (by omega)).trans ju.out);have aX:=jq aE;have y0:=af _ iZ.out 0 _ rfl;have f0:w4.frozen? ⟨X,0,none⟩=false:=by simp[World.frozen?,iZ.out]
 have y1:=af _ iZ.out 1 _ rfl;have f1:w4.frozen? ⟨X,1,none⟩=false:=by simp[World.frozen?,iZ.out]
 have y2:=af _ iZ.out 2 _ rfl;have f2:w4.frozen? ⟨X,2,none⟩=false:=by simp[World.frozen?,iZ.out]
 have y3:=af _ iZ.out 3 _ rfl;have f3:w4.frozen? ⟨X,3,none⟩=false:=by simp[World.frozen?,iZ.out]
 clear aE p4;go_wp2_with fail;clear di;go_wp2_with fail;obtain⟨W,hW⟩:=aaK ((((w4.setCell ⟨X,0,none⟩ (.int .i64 k)).setCell ⟨X,1,none⟩ (.string qn)).setCell ⟨X,2,none⟩ (.int .i64 q2)).setCell ⟨X,3,none⟩ (.slice vA vn vc));rw[hW];have mJ:W.heap[X]?=some (.cells [Value.int .i64 k,.string qn,.int .i64 q2,.slice vA vn vc].toArray 33 (0,0)):=by
  rw[<-hW];simp[World.setCell,Array.getElem?_modify,iZ.out]
 have jB:Below X w4 W:=by
  rw[<-hW];exact ((((vQ X w4).setCell (p:=⟨X,0,none⟩) (bQ _) _).setCell (p:=⟨X,1,none⟩) (bQ _) _).setCell (p:=⟨X,2,none⟩) (bQ _) _).setCell (p:=⟨X,3,none⟩) (bQ _) _
 have c0:=af _ mJ 0 _ rfl;have c1:=af _ mJ 1 _ rfl;have c2:=af _ mJ 2 _ rfl;have c3:=af _ mJ 3 _ rfl;refine bodyPost_ret (v:=.agg #[.int .i64 k,.string qn,.int .i64 q2,.slice vA vn vc]) (by simp[results,results31,go_sem,c0,c1,c2,c3]) rfl ?_;refine⟨[.int .i64 k,.string qn,.int .i64 q2,.slice vA vn vc],rfl,⟨qn,vA,vn,vc,by rw[EQ.out.1,EQ.out.2.1],EQ.out.2.2.1,EQ.out.2.2.2,?_⟩,by first | exact (aw.out.trans (aX.out.abQ)).trans jB | (rw[HX.out];exact (aw.out.trans (aX.out.abQ)).trans jB)⟩;have ht:Turned X w4 W:=⟨by rw[<-hW];rfl,by rw[<-hW];rfl,by rw[<-hW];rfl,by rw[<-hW];simp[World.setCell],λi hi=>by rw[<-hW];simp[World.setCell,Array.getElem?_modify,Ne.symm hi]⟩;exact (show dO az 5 0 w2.heap.size w4 (.slice vA vn vc) x.sets from λM hM=>gN.out.later ax aK aX.out (λk hk=>.inl (hM k hk).2)).past ax eB aK (by omega) ht
end
section
open Go.RowKit Go.Shelf
attribute [local go_sem] Oper.semAt_some
theorem aMX(w:World)(hR:cr w w.heap.size):Calls prog 9 #[] w (aCX w.heap.size w (.bool true)):=by
 have mA:=jq hR;go_enter func9,ntmps9;go_wp2_with fail;refine (QA w hR).mono ?_;rintro e w1 ⟨L,d0,g0,d1,g1,d2,g2,d3,g3,rfl,hex,ii,av⟩;clear hR;have uB:=jq hex;have ay:=jq av;have lH:=jq ((mA.out.keep av).more av.size);have eM:Hid (SlR az 5 w1 w1.heap.size (.slice (some ⟨L,0,none⟩) 4 4) [Np.ex0,Np.ex1,Np.ex2,Np.ex3]):=jq (by have:=hex.all;rwa [Np.Ff] at this);clear hex av;go_wp2_with fail;refine (yc (.slice (some ⟨L,0,none⟩) 4 4) [Np.ex0,Np.ex1,Np.ex2,Np.ex3] (jq (Np.t7 (by kernel_rfl))) (by kernel_rfl) 50 rfl _ Np.axJ w1 lH.out eM.out Np.Fg).mono ?_;rintro e w2 ⟨e2,rfl,tT,ae⟩;obtain⟨q2,A2,n2,m2,rfl,eA,aWK,ga⟩:=tT;dsimp only at eA ga |-;have am:=jq (ay.out.trans (ae.mono ay.out.size));have sY:Hid (jX w2 w2.heap.size [.int .i64 1,.string q2,.int .i64 0,.slice A2 n2 m2] ⟨1,([],0),[Np.ex3]⟩):=jq ⟨q2,A2,n2,m2,rfl,eA,aWK,ga⟩;obtain⟨w3,bT⟩:=aaK (w2.alloc (.cells #[.int .i64 1,.string q2,.int .i64 0,.slice A2 n2 m2] 33));have aq:Below w2.heap.size w2 w3:=by rw[<-bT];exact aG _ _
 have eG:w3.heap[w2.heap.size]?=some (.cells [Value.int .i64 1,.string q2,.int .i64 0,.slice A2 n2 m2].toArray 33 (0,0)):=by rw[<-bT];exact heap_alloc_new _ _
 obtain⟨b2,RJ⟩:=aaK w2.heap.size;rw[RJ] at eG;have HY2:=jq eG;have ph:=ae.trans (aq.mono ae.size);have s9:=jq (uB.out.keep ph);have ju:=jq ((lH.out.keep ph).more ph.size);have aw:=jq (am.out.trans (aq.mono am.out.size));have Zl:=jq (sY.out.later aq);have mh:b2<w3.heap.size:=by rw[<-RJ,<-bT];simp
 clear eA ga ae aq eG ph;go_wp2_with fail;clear bT;go_wp2_with fail;obtain⟨w4,di⟩:=aaK w3.drew;have aE:Below w3.heap.size w3 w4:=by rw[<-di];exact (vQ _ _).drew
 have ir:=jq (s9.out.keep aE);have iZ:=jq ((ju.out.keep aE).more aE.size);have sK:=jq aE;clear aE;have c0:=af _ ir.out.l 0 _ rfl;have c1:=af _ ir.out.l 1 _ rfl;have c2:=af _ ir.out.l 2 _ rfl;have c3:=af _ ir.out.l 3 _ rfl;have c4:=af _ ir.out.l 4 _ rfl;have c5:=af _ ir.out.l 5 _ rfl;have c6:=af _ ir.out.l 6 _ rfl;have c7:=af _ ir.out.l 7 _ rfl;have c8:=af _ ir.out.l 8 _ rfl;have c9:=af _ ir.out.l 9 _ rfl;have c15:=af _ ir.out.l 15 _ rfl;have c16:=af _ ir.out.l 16 _ rfl;have c17:=af _ ir.out.l 17 _ rfl;have c18:=af _ ir.out.l 18 _ rfl;have c19:=af _ ir.out.l 19 _ rfl;refine yz λa0 bD=>?_;have jt:=jq bD;have kB:=jq (show a0.eval (.tmp 1) = .slice (some ⟨L,0,none⟩) 4 4 by rw[bD];rfl);have HM:=jq (show a0.tmps.size=157 by rw[bD];rfl);clear bD;refine Go.wp_mono (Q:=Hd3 a0 L d0 g0 d1 g1 d2 g2 d3 g3 w4) (wp_region_any (by kernel_rfl) ?_) ?_
 case refine_1=>
  try rw[show ({ heap:=w3.heap,tape:=w3.tape,drawn:=w3.drawn+1,os:=w3.os,output:=w3.output } : World)=w4 from di]
  try rw[di]
  clear di;refine Mi [9,11] 9 (D:=[0,1,2,3,4,5,6,7,8]) (val:=eo L d0 g0 d1 g1 d2 g2 d3 g3 undef undef undef) jj kW (rR HM.out) (by kernel_rfl) ?_ ?_
  ·intro i au aI o ho a' hb ao;have k1':=adJ hb kB.out;simp[Act.eval] at k1'
   repeat' (rcases au with _ | ⟨_,au⟩)
   all_goals first
    | (exfalso;simp at aI;done)
    | (cases ho
       try simp[Act.eval,Region.binds,eo,gR] at ao
       refine cC (by simp[Region.wanted]) ?_;simp[Oper.quietAt,Oper.quietUpon,execOp,go_sem,eo,k1',c0,c1,c2,c3,c4,c5,c6,c7,c8,c9,c15,c16,c17,c18,c19,ao])
  ·intro p jG
   repeat' (rcases jG with _ | ⟨_,jG⟩)
   ·intro f listed a' hH hr hv;have av2:=hv 2;have av5:=hv 5;have av8:=hv 8;simp[Act.eval,eo,gR] at av2 av5 av8;simp only[wpOp];simp[Region.wanted];refine .inl ?_;simp[Oper.wp,execOp,go_sem,av2,av5,av8];obtain⟨wk,tW⟩:=aaX (w4.alloc (.cells #[.string ⟨#[46]⟩,.int .i64 7,.int .i64 60,.slice (some ⟨d0,0,none⟩) 1 1,.slice (some ⟨g0,0,none⟩) 1 1,.string ⟨#[120]⟩,.int .i64 6,.int .i64 60,.slice (some ⟨d1,0,none⟩) 1 1,.slice (some ⟨g1,0,none⟩) 1 1,.string ⟨#[119,46,120]⟩,.int .i64 1,.int .i64 60,.slice (some ⟨d3,0,none⟩) 1 1,.slice (some ⟨g3,0,none⟩) 1 1] 44));rw[<-tW];have cY:Below w4.heap.size w4 wk:=by rw[tW];exact aG _ _
    have cV:Hid (L<w4.heap.size):=jq (World.block_lt_of_cell? _ _ c0);have Cl:wk.heap[w4.heap.size]?=some (.cells [Value.string ⟨#[46]⟩,.int .i64 7,.int .i64 60,.slice (some ⟨d0,0,none⟩) 1 1,.slice (some ⟨g0,0,none⟩) 1 1,.string ⟨#[120]⟩,.int .i64 6,.int .i64 60,.slice (some ⟨d1,0,none⟩) 1 1,.slice (some ⟨g1,0,none⟩) 1 1,.string ⟨#[119,46,120]⟩,.int .i64 1,.int .i64 60,.slice (some ⟨d3,0,none⟩) 1 1,.slice (some ⟨g3,0,none⟩) 1 1].toArray 44 (0,0)):=by rw[tW];exact heap_alloc_new _ _
    replace c0:=(cY.cell (p:=⟨L,0,none⟩) (cV.out)).trans c0;replace c1:=(cY.cell (p:=⟨L,1,none⟩) (cV.out)).trans c1;replace c2:=(cY.cell (p:=⟨L,2,none⟩) (cV.out)).trans c2;replace c3:=(cY.cell (p:=⟨L,3,none⟩) (cV.out)).trans c3;replace c4:=(cY.cell (p:=⟨L,4,none⟩) (cV.out)).trans c4;replace c5:=(cY.cell (p:=⟨L,5,none⟩) (cV.out)).trans c5;replace c6:=(cY.cell (p:=⟨L,6,none⟩) (cV.out)).trans c6;replace c7:=(cY.cell (p:=⟨L,7,none⟩) (cV.out)).trans c7;replace c8:=(cY.cell (p:=⟨L,8,none⟩) (cV.out)).trans c8;replace c9:=(cY.cell (p:=⟨L,9,none⟩) (cV.out)).trans c9;replace c15:=(cY.cell (p:=⟨L,15,none⟩) (cV.out)).trans c15;replace c16:=(cY.cell (p:=⟨L,16,none⟩) (cV.out)).trans c16;replace c17:=(cY.cell (p:=⟨L,17,none⟩) (cV.out)).trans c17;replace c18:=(cY.cell (p:=⟨L,18,none⟩) (cV.out)).trans c18;replace c19:=(cY.cell (p:=⟨L,19,none⟩) (cV.out)).trans c19;have tb:=jq (ir.out.keep cY);have uw:=jq ((iZ.out.keep cY).more cY.size);have gk:=jq (tb.out.three Cl);have ni:=jq cY;clear tW cY Cl;refine Mi [10,11] 10 (D:=[0,1,2,3,4,5,6,7,8,9]) (val:=eo L d0 g0 d1 g1 d2 g2 d3 g3 (.slice (some ⟨w4.heap.size,0,none⟩) 3 3) undef undef) jj kW (hH.next jj kW hr) (by kernel_rfl) ?_ ?_
    ·intro i au aI o ho a' hb ao;have k1':=adJ hb kB.out;simp[Act.eval] at k1'
     repeat' (rcases au with _ | ⟨_,au⟩)
     all_goals first
      | (exfalso;simp at aI;done)
      | (cases ho
         try simp[Act.eval,Region.binds,eo,gR] at ao
         refine cC (by simp[Region.wanted]) ?_;simp[Oper.quietAt,Oper.quietUpon,execOp,go_sem,eo,k1',c0,c1,c2,c3,c4,c5,c6,c7,c8,c9,c15,c16,c17,c18,c19,ao])
    ·intro p jG
     repeat' (rcases jG with _ | ⟨_,jG⟩)
     ·intro f listed a' hH hr hv;have av9:=hv 9;simp[Act.eval,eo,gR] at av9;simp only[wpOp];simp[Region.wanted];refine .inl ?_;simp[Oper.wp,go_sem,av9];refine (yc (.slice (some ⟨w4.heap.size,0,none⟩) 3 3) [Np.ex0,Np.ex1,Np.ex3] (jq (Np.t7 (by kernel_rfl))) (by kernel_rfl) 50 rfl _ Np.JG wk uw.out gk.out Np.JH).mono ?_;rintro e wj ⟨e3,rfl,vw,aU⟩;obtain⟨q3,A3,n3,m3,rfl,gV,Dc,bR⟩:=vw;dsimp only at gV bR |-;have dd:Hid (L<wk.heap.size):=jq (World.block_lt_of_cell? _ _ c0);replace c0:=(aU.cell (p:=⟨L,0,none⟩) (dd.out)).trans c0;replace c1:=(aU.cell (p:=⟨L,1,none⟩) (dd.out)).trans c1;replace c2:=(aU.cell (p:=⟨L,2,none⟩) (dd.out)).trans c2;replace c3:=(aU.cell (p:=⟨L,3,none⟩) (dd.out)).trans c3;replace c4:=(aU.cell (p:=⟨L,4,none⟩) (dd.out)).trans c4;replace c5:=(aU.cell (p:=⟨L,5,none⟩) (dd.out)).trans c5;replace c6:=(aU.cell (p:=⟨L,6,none⟩) (dd.out)).trans c6;replace c7:=(aU.cell (p:=⟨L,7,none⟩) (dd.out)).trans c7;replace c8:=(aU.cell (p:=⟨L,8,none⟩) (dd.out)).trans c8;replace c9:=(aU.cell (p:=⟨L,9,none⟩) (dd.out)).trans c9;replace c15:=(aU.cell (p:=⟨L,15,none⟩) (dd.out)).trans c15;replace c16:=(aU.cell (p:=⟨L,16,none⟩) (dd.out)).trans c16;replace c17:=(aU.cell (p:=⟨L,17,none⟩) (dd.out)).trans c17;replace c18:=(aU.cell (p:=⟨L,18,none⟩) (dd.out)).trans c18;replace c19:=(aU.cell (p:=⟨L,19,none⟩) (dd.out)).trans c19;have lM:Hid (jX wj wj.heap.size [.int .i64 3,.string q3,.int .i64 7,.slice A3 n3 m3] ⟨3,([120],7),[]⟩):=jq ⟨q3,A3,n3,m3,rfl,gV,Dc,bR⟩;have eL:=jq aU;clear gV bR aU;refine cM 11 (D:=[0,1,2,3,4,5,6,7,8,9,10]) (val:=eo L d0 g0 d1 g1 d2 g2 d3 g3 (.slice (some ⟨w4.heap.size,0,none⟩) 3 3) (.agg #[.int .i64 3,.string q3,.int .i64 7,.slice A3 n3 m3]) undef) jj kW (hH.next jj kW hr) (by kernel_rfl) ?_ ?_
      ·intro i au aI o ho a' hb ao;have k1':=adJ hb kB.out;simp[Act.eval] at k1'
       repeat' (rcases au with _ | ⟨_,au⟩)
       all_goals first
        | (exfalso;simp at aI;done)
        | (cases ho
           try simp[Act.eval,Region.binds,eo,gR] at ao
           refine cC (by simp[Region.wanted]) ?_;simp[Oper.quietAt,Oper.quietUpon,execOp,go_sem,eo,k1',c0,c1,c2,c3,c4,c5,c6,c7,c8,c9,c15,c16,c17,c18,c19,ao])
      ·intro f listed a' hH hr hv;simp only[wpOp];simp[Region.wanted];refine .inl ?_;simp[Oper.wp,execOp,go_sem];obtain⟨wd,bp⟩:=aaX (wj.alloc (.cells #[.int .i64 0,.string ⟨#[]⟩,.int .i64 0,.slice none 0 0] 33));rw[<-bp];have aJ:Hid (Below wj.heap.size wj wd):=jq (by rw[bp];exact aG _ _);have jR:Hid (wd.heap[wj.heap.size]?=some (.cells [Value.int .i64 0,.string ⟨#[]⟩,.int .i64 0,.slice none 0 0].toArray 33 (0,0))):=jq (by rw[bp];exact heap_alloc_new _ _);have kG:Hid (wj.heap.size<wd.heap.size):=jq (by rw[bp];simp);have cF:Hid (L<wj.heap.size):=jq (World.block_lt_of_cell? _ _ c0);replace c0:=(aJ.out.cell (p:=⟨L,0,none⟩) (cF.out)).trans c0;replace c1:=(aJ.out.cell (p:=⟨L,1,none⟩) (cF.out)).trans c1;replace c2:=(aJ.out.cell (p:=⟨L,2,none⟩) (cF.out)).trans c2;replace c3:=(aJ.out.cell (p:=⟨L,3,none⟩) (cF.out)).trans c3;replace c4:=(aJ.out.cell (p:=⟨L,4,none⟩) (cF.out)).trans c4;replace c5:=(aJ.out.cell (p:=⟨L,5,none⟩) (cF.out)).trans c5;replace c6:=(aJ.out.cell (p:=⟨L,6,none⟩) (cF.out)).trans c6;replace c7:=(aJ.out.cell (p:=⟨L,7,none⟩) (cF.out)).trans c7;replace c8:=(aJ.out.cell (p:=⟨L,8,none⟩) (cF.out)).trans c8;replace c9:=(aJ.out.cell (p:=⟨L,9,none⟩) (cF.out)).trans c9;replace c15:=(aJ.out.cell (p:=⟨L,15,none⟩) (cF.out)).trans c15;replace c16:=(aJ.out.cell (p:=⟨L,16,none⟩) (cF.out)).trans c16;replace c17:=(aJ.out.cell (p:=⟨L,17,none⟩) (cF.out)).trans c17;replace c18:=(aJ.out.cell (p:=⟨L,18,none⟩) (cF.out)).trans c18;replace c19:=(aJ.out.cell (p:=⟨L,19,none⟩) (cF.out)).trans c19;have BO:=jq (tb.out.keep (eL.out.trans (aJ.out.mono eL.out.size)));have rx:=jq ((uw.out.keep (eL.out.trans (aJ.out.mono eL.out.size))).more (eL.out.trans (aJ.out.mono eL.out.size)).size);clear bp;refine cM 12 (D:=[0,1,2,3,4,5,6,7,8,9,10,11]) (val:=eo L d0 g0 d1 g1 d2 g2 d3 g3 (.slice (some ⟨w4.heap.size,0,none⟩) 3 3) (.agg #[.int .i64 3,.string q3,.int .i64 7,.slice A3 n3 m3]) (.pointer (some ⟨wj.heap.size,0,none⟩))) jj kW (hH.next jj kW hr) (by kernel_rfl) ?_ ?_
       ·intro i au aI o ho a' hb ao;have k1':=adJ hb kB.out;simp[Act.eval] at k1'
        repeat' (rcases au with _ | ⟨_,au⟩)
        all_goals first
         | (exfalso;simp at aI;done)
         | (cases ho
            try simp[Act.eval,Region.binds,eo,gR] at ao
            refine cC (by simp[Region.wanted]) ?_;simp[Oper.quietAt,Oper.quietUpon,execOp,go_sem,eo,k1',c0,c1,c2,c3,c4,c5,c6,c7,c8,c9,c15,c16,c17,c18,c19,ao])
       ·intro f listed a' hH hr hv;have av10:=hv 10;have av11:=hv 11;simp[Act.eval,eo,gR] at av10 av11;simp only[wpOp];simp[Region.wanted];refine .inl ?_;have aY:=jR.out;have y0:=af _ aY 0 _ rfl;have f0:wd.frozen? ⟨wj.heap.size,0,none⟩=false:=by simp[World.frozen?,aY]
        have y1:=af _ aY 1 _ rfl;have f1:wd.frozen? ⟨wj.heap.size,1,none⟩=false:=by simp[World.frozen?,aY]
        have y2:=af _ aY 2 _ rfl;have f2:wd.frozen? ⟨wj.heap.size,2,none⟩=false:=by simp[World.frozen?,aY]
        have y3:=af _ aY 3 _ rfl;have f3:wd.frozen? ⟨wj.heap.size,3,none⟩=false:=by simp[World.frozen?,aY]
        simp[Oper.wp,execOp,go_sem,av10,av11,y0,y1,y2,y3,f0,f1,f2,f3];refine nU hH hr HM.out jj (by kernel_rfl) λeO=>?_
        ·rw[eO];have hE:w4.heap.size<=wj.heap.size:=by have h1:=ni.out.size;have h2:=eL.out.size;have h3:=aJ.out.size;omega
         refine⟨w4.heap.size,wj.heap.size,q3,A3,n3,m3,rfl,rfl,by simp[World.setCell,Array.getElem?_modify,aY],?_,Cb (ni.out.trans ((eL.out.trans (aJ.out.mono eL.out.size)).mono ni.out.size)) hE _ _ _ _⟩;exact Mt (lM.out.later aJ.out) _
     ·intro f listed a' hH hr hv;simp only[wpOp];simp[Region.wanted];refine .inl ?_;simp[Oper.wp,execOp,go_sem];obtain⟨wd,bp⟩:=aaX (wk.alloc (.cells #[.int .i64 0,.string ⟨#[]⟩,.int .i64 0,.slice none 0 0] 33));rw[<-bp];have aJ:Hid (Below wk.heap.size wk wd):=jq (by rw[bp];exact aG _ _);have jR:Hid (wd.heap[wk.heap.size]?=some (.cells [Value.int .i64 0,.string ⟨#[]⟩,.int .i64 0,.slice none 0 0].toArray 33 (0,0))):=jq (by rw[bp];exact heap_alloc_new _ _);have kG:Hid (wk.heap.size<wd.heap.size):=jq (by rw[bp];simp);have cF:Hid (L<wk.heap.size):=jq (World.block_lt_of_cell? _ _ c0);replace c0:=(aJ.out.cell (p:=⟨L,0,none⟩) (cF.out)).trans c0;replace c1:=(aJ.out.cell (p:=⟨L,1,none⟩) (cF.out)).trans c1;replace c2:=(aJ.out.cell (p:=⟨L,2,none⟩) (cF.out)).trans c2;replace c3:=(aJ.out.cell (p:=⟨L,3,none⟩) (cF.out)).trans c3;replace c4:=(aJ.out.cell (p:=⟨L,4,none⟩) (cF.out)).trans c4;replace c5:=(aJ.out.cell (p:=⟨L,5,none⟩) (cF.out)).trans c5;replace c6:=(aJ.out.cell (p:=⟨L,6,none⟩) (cF.out)).trans c6;replace c7:=(aJ.out.cell (p:=⟨L,7,none⟩) (cF.out)).trans c7;replace c8:=(aJ.out.cell (p:=⟨L,8,none⟩) (cF.out)).trans c8;replace c9:=(aJ.out.cell (p:=⟨L,9,none⟩) (cF.out)).trans c9;replace c15:=(aJ.out.cell (p:=⟨L,15,none⟩) (cF.out)).trans c15;replace c16:=(aJ.out.cell (p:=⟨L,16,none⟩) (cF.out)).trans c16;replace c17:=(aJ.out.cell (p:=⟨L,17,none⟩) (cF.out)).trans c17;replace c18:=(aJ.out.cell (p:=⟨L,18,none⟩) (cF.out)).trans c18;replace c19:=(aJ.out.cell (p:=⟨L,19,none⟩) (cF.out)).trans c19;have BO:=jq (tb.out.keep aJ.out);have rx:=jq ((uw.out.keep aJ.out).more aJ.out.size);clear bp;refine cM 10 (D:=[0,1,2,3,4,5,6,7,8,9,11]) (val:=eo L d0 g0 d1 g1 d2 g2 d3 g3 (.slice (some ⟨w4.heap.size,0,none⟩) 3 3) undef (.pointer (some ⟨wk.heap.size,0,none⟩))) jj kW (hH.next jj kW hr) (by kernel_rfl) ?_ ?_
      ·intro i au aI o ho a' hb ao;have k1':=adJ hb kB.out;simp[Act.eval] at k1'
       repeat' (rcases au with _ | ⟨_,au⟩)
       all_goals first
        | (exfalso;simp at aI;done)
        | (cases ho
           try simp[Act.eval,Region.binds,eo,gR] at ao
           refine cC (by simp[Region.wanted]) ?_;simp[Oper.quietAt,Oper.quietUpon,execOp,go_sem,eo,k1',c0,c1,c2,c3,c4,c5,c6,c7,c8,c9,c15,c16,c17,c18,c19,ao])
      ·intro f listed a' hH hr hv;have av9:=hv 9;simp[Act.eval,eo,gR] at av9;simp only[wpOp];simp[Region.wanted];refine .inl ?_;simp[Oper.wp,go_sem,av9];refine (yc (.slice (some ⟨w4.heap.size,0,none⟩) 3 3) [Np.ex0,Np.ex1,Np.ex3] (jq (Np.t7 (by kernel_rfl))) (by kernel_rfl) 50 rfl _ Np.JG wd rx.out (gk.out.later ax aK aJ.out) Np.JH).mono ?_;rintro e wj ⟨e3,rfl,vw,aU⟩;obtain⟨q3,A3,n3,m3,rfl,gV,Dc,bR⟩:=vw;dsimp only at gV bR |-;have dd:Hid (L<wd.heap.size):=jq (World.block_lt_of_cell? _ _ c0);replace c0:=(aU.cell (p:=⟨L,0,none⟩) (dd.out)).trans c0;replace c1:=(aU.cell (p:=⟨L,1,none⟩) (dd.out)).trans c1;replace c2:=(aU.cell (p:=⟨L,2,none⟩) (dd.out)).trans c2;replace c3:=(aU.cell (p:=⟨L,3,none⟩) (dd.out)).trans c3;replace c4:=(aU.cell (p:=⟨L,4,none⟩) (dd.out)).trans c4;replace c5:=(aU.cell (p:=⟨L,5,none⟩) (dd.out)).trans c5;replace c6:=(aU.cell (p:=⟨L,6,none⟩) (dd.out)).trans c6;replace c7:=(aU.cell (p:=⟨L,7,none⟩) (dd.out)).trans c7;replace c8:=(aU.cell (p:=⟨L,8,none⟩) (dd.out)).trans c8;replace c9:=(aU.cell (p:=⟨L,9,none⟩) (dd.out)).trans c9;replace c15:=(aU.cell (p:=⟨L,15,none⟩) (dd.out)).trans c15;replace c16:=(aU.cell (p:=⟨L,16,none⟩) (dd.out)).trans c16;replace c17:=(aU.cell (p:=⟨L,17,none⟩) (dd.out)).trans c17;replace c18:=(aU.cell (p:=⟨L,18,none⟩) (dd.out)).trans c18;replace c19:=(aU.cell (p:=⟨L,19,none⟩) (dd.out)).trans c19;have lM:Hid (jX wj wj.heap.size [.int .i64 3,.string q3,.int .i64 7,.slice A3 n3 m3] ⟨3,([120],7),[]⟩):=jq ⟨q3,A3,n3,m3,rfl,gV,Dc,bR⟩;have eL:=jq aU;clear gV bR aU;refine cM 12 (D:=[0,1,2,3,4,5,6,7,8,9,10,11]) (val:=eo L d0 g0 d1 g1 d2 g2 d3 g3 (.slice (some ⟨w4.heap.size,0,none⟩) 3 3) (.agg #[.int .i64 3,.string q3,.int .i64 7,.slice A3 n3 m3]) (.pointer (some ⟨wk.heap.size,0,none⟩))) jj kW (hH.next jj kW hr) (by kernel_rfl) ?_ ?_
       ·intro i au aI o ho a' hb ao;have k1':=adJ hb kB.out;simp[Act.eval] at k1'
        repeat' (rcases au with _ | ⟨_,au⟩)
        all_goals first
         | (exfalso;simp at aI;done)
         | (cases ho
            try simp[Act.eval,Region.binds,eo,gR] at ao
            refine cC (by simp[Region.wanted]) ?_;simp[Oper.quietAt,Oper.quietUpon,execOp,go_sem,eo,k1',c0,c1,c2,c3,c4,c5,c6,c7,c8,c9,c15,c16,c17,c18,c19,ao])
       ·intro f listed a' hH hr hv;have av10:=hv 10;have av11:=hv 11;simp[Act.eval,eo,gR] at av10 av11;simp only[wpOp];simp[Region.wanted];refine .inl ?_;have aY:=(eL.out.block wk.heap.size kG.out).trans jR.out;have y0:=af _ aY 0 _ rfl;have f0:wj.frozen? ⟨wk.heap.size,0,none⟩=false:=by simp[World.frozen?,aY]
        have y1:=af _ aY 1 _ rfl;have f1:wj.frozen? ⟨wk.heap.size,1,none⟩=false:=by simp[World.frozen?,aY]
        have y2:=af _ aY 2 _ rfl;have f2:wj.frozen? ⟨wk.heap.size,2,none⟩=false:=by simp[World.frozen?,aY]
        have y3:=af _ aY 3 _ rfl;have f3:wj.frozen? ⟨wk.heap.size,3,none⟩=false:=by simp[World.frozen?,aY]
        simp[Oper.wp,execOp,go_sem,av10,av11,y0,y1,y2,y3,f0,f1,f2,f3];refine nU hH hr HM.out jj (by kernel_rfl) λeO=>?_
        ·rw[eO];have hE:w4.heap.size<=wk.heap.size:=by have h1:=ni.out.size;have h2:=eL.out.size;have h3:=aJ.out.size;omega
         refine⟨w4.heap.size,wk.heap.size,q3,A3,n3,m3,rfl,rfl,by simp[World.setCell,Array.getElem?_modify,aY],?_,Cb (ni.out.trans ((aJ.out.trans (eL.out.mono aJ.out.size)).mono ni.out.size)) hE _ _ _ _⟩;exact Mt (lM.out) _
   ·intro f listed a' hH hr hv;simp only[wpOp];simp[Region.wanted];refine .inl ?_;simp[Oper.wp,execOp,go_sem];obtain⟨wd,bp⟩:=aaX (w4.alloc (.cells #[.int .i64 0,.string ⟨#[]⟩,.int .i64 0,.slice none 0 0] 33));rw[<-bp];have aJ:Hid (Below w4.heap.size w4 wd):=jq (by rw[bp];exact aG _ _);have jR:Hid (wd.heap[w4.heap.size]?=some (.cells [Value.int .i64 0,.string ⟨#[]⟩,.int .i64 0,.slice none 0 0].toArray 33 (0,0))):=jq (by rw[bp];exact heap_alloc_new _ _);have kG:Hid (w4.heap.size<wd.heap.size):=jq (by rw[bp];simp);have cF:Hid (L<w4.heap.size):=jq (World.block_lt_of_cell? _ _ c0);replace c0:=(aJ.out.cell (p:=⟨L,0,none⟩) (cF.out)).trans c0;replace c1:=(aJ.out.cell (p:=⟨L,1,none⟩) (cF.out)).trans c1;replace c2:=(aJ.out.cell (p:=⟨L,2,none⟩) (cF.out)).trans c2;replace c3:=(aJ.out.cell (p:=⟨L,3,none⟩) (cF.out)).trans c3;replace c4:=(aJ.out.cell (p:=⟨L,4,none⟩) (cF.out)).trans c4;replace c5:=(aJ.out.cell (p:=⟨L,5,none⟩) (cF.out)).trans c5;replace c6:=(aJ.out.cell (p:=⟨L,6,none⟩) (cF.out)).trans c6;replace c7:=(aJ.out.cell (p:=⟨L,7,none⟩) (cF.out)).trans c7;replace c8:=(aJ.out.cell (p:=⟨L,8,none⟩) (cF.out)).trans c8;replace c9:=(aJ.out.cell (p:=⟨L,9,none⟩) (cF.out)).trans c9;replace c15:=(aJ.out.cell (p:=⟨L,15,none⟩) (cF.out)).trans c15;replace c16:=(aJ.out.cell (p:=⟨L,16,none⟩) (cF.out)).trans c16;replace c17:=(aJ.out.cell (p:=⟨L,17,none⟩) (cF.out)).trans c17;replace c18:=(aJ.out.cell (p:=⟨L,18,none⟩) (cF.out)).trans c18;replace c19:=(aJ.out.cell (p:=⟨L,19,none⟩) (cF.out)).trans c19;have BO:=jq (ir.out.keep aJ.out);have rx:=jq ((iZ.out.keep aJ.out).more aJ.out.size);clear bp;refine cM 9 (D:=[0,1,2,3,4,5,6,7,8,11]) (val:=eo L d0 g0 d1 g1 d2 g2 d3 g3 undef undef (.pointer (some ⟨w4.heap.size,0,none⟩))) jj kW (hH.next jj kW hr) (by kernel_rfl) ?_ ?_
    ·intro i au aI o ho a' hb ao;have k1':=adJ hb kB.out;simp[Act.eval] at k1'
     repeat' (rcases au with _ | ⟨_,au⟩)
     all_goals first
      | (exfalso;simp at aI;done)
      | (cases ho
         try simp[Act.eval,Region.binds,eo,gR] at ao
         refine cC (by simp[Region.wanted]) ?_;simp[Oper.quietAt,Oper.quietUpon,execOp,go_sem,eo,k1',c0,c1,c2,c3,c4,c5,c6,c7,c8,c9,c15,c16,c17,c18,c19,ao])
    ·intro f listed a' hH hr hv;have av2:=hv 2;have av5:=hv 5;have av8:=hv 8;simp[Act.eval,eo,gR] at av2 av5 av8;simp only[wpOp];simp[Region.wanted];refine .inl ?_;simp[Oper.wp,execOp,go_sem,av2,av5,av8];obtain⟨wk,tW⟩:=aaX (wd.alloc (.cells #[.string ⟨#[46]⟩,.int .i64 7,.int .i64 60,.slice (some ⟨d0,0,none⟩) 1 1,.slice (some ⟨g0,0,none⟩) 1 1,.string ⟨#[120]⟩,.int .i64 6,.int .i64 60,.slice (some ⟨d1,0,none⟩) 1 1,.slice (some ⟨g1,0,none⟩) 1 1,.string ⟨#[119,46,120]⟩,.int .i64 1,.int .i64 60,.slice (some ⟨d3,0,none⟩) 1 1,.slice (some ⟨g3,0,none⟩) 1 1] 44));rw[<-tW];have cY:Below wd.heap.size wd wk:=by rw[tW];exact aG _ _
     have cV:Hid (L<wd.heap.size):=jq (World.block_lt_of_cell? _ _ c0);have Cl:wk.heap[wd.heap.size]?=some (.cells [Value.string ⟨#[46]⟩,.int .i64 7,.int .i64 60,.slice (some ⟨d0,0,none⟩) 1 1,.slice (some ⟨g0,0,none⟩) 1 1,.string ⟨#[120]⟩,.int .i64 6,.int .i64 60,.slice (some ⟨d1,0,none⟩) 1 1,.slice (some ⟨g1,0,none⟩) 1 1,.string ⟨#[119,46,120]⟩,.int .i64 1,.int .i64 60,.slice (some ⟨d3,0,none⟩) 1 1,.slice (some ⟨g3,0,none⟩) 1 1].toArray 44 (0,0)):=by rw[tW];exact heap_alloc_new _ _
     replace c0:=(cY.cell (p:=⟨L,0,none⟩) (cV.out)).trans c0;replace c1:=(cY.cell (p:=⟨L,1,none⟩) (cV.out)).trans c1;replace c2:=(cY.cell (p:=⟨L,2,none⟩) (cV.out)).trans c2;replace c3:=(cY.cell (p:=⟨L,3,none⟩) (cV.out)).trans c3;replace c4:=(cY.cell (p:=⟨L,4,none⟩) (cV.out)).trans c4;replace c5:=(cY.cell (p:=⟨L,5,none⟩) (cV.out)).trans c5;replace c6:=(cY.cell (p:=⟨L,6,none⟩) (cV.out)).trans c6;replace c7:=(cY.cell (p:=⟨L,7,none⟩) (cV.out)).trans c7;replace c8:=(cY.cell (p:=⟨L,8,none⟩) (cV.out)).trans c8;replace c9:=(cY.cell (p:=⟨L,9,none⟩) (cV.out)).trans c9;replace c15:=(cY.cell (p:=⟨L,15,none⟩) (cV.out)).trans c15;replace c16:=(cY.cell (p:=⟨L,16,none⟩) (cV.out)).trans c16;replace c17:=(cY.cell (p:=⟨L,17,none⟩) (cV.out)).trans c17;replace c18:=(cY.cell (p:=⟨L,18,none⟩) (cV.out)).trans c18;replace c19:=(cY.cell (p:=⟨L,19,none⟩) (cV.out)).trans c19;have tb:=jq (BO.out.keep cY);have uw:=jq ((rx.out.keep cY).more cY.size);have gk:=jq (tb.out.three Cl);have ni:=jq cY;clear tW cY Cl;refine cM 10 (D:=[0,1,2,3,4,5,6,7,8,9,11]) (val:=eo L d0 g0 d1 g1 d2 g2 d3 g3 (.slice (some ⟨wd.heap.size,0,none⟩) 3 3) undef (.pointer (some ⟨w4.heap.size,0,none⟩))) jj kW (hH.next jj kW hr) (by kernel_rfl) ?_ ?_
     ·intro i au aI o ho a' hb ao;have k1':=adJ hb kB.out;simp[Act.eval] at k1'
      repeat' (rcases au with _ | ⟨_,au⟩)
      all_goals first
       | (exfalso;simp at aI;done)
       | (cases ho
          try simp[Act.eval,Region.binds,eo,gR] at ao
          refine cC (by simp[Region.wanted]) ?_;simp[Oper.quietAt,Oper.quietUpon,execOp,go_sem,eo,k1',c0,c1,c2,c3,c4,c5,c6,c7,c8,c9,c15,c16,c17,c18,c19,ao])
     ·intro f listed a' hH hr hv;have av9:=hv 9;simp[Act.eval,eo,gR] at av9;simp only[wpOp];simp[Region.wanted];refine .inl ?_;simp[Oper.wp,go_sem,av9];refine (yc (.slice (some ⟨wd.heap.size,0,none⟩) 3 3) [Np.ex0,Np.ex1,Np.ex3] (jq (Np.t7 (by kernel_rfl))) (by kernel_rfl) 50 rfl _ Np.JG wk uw.out gk.out Np.JH).mono ?_;rintro e wj ⟨e3,rfl,vw,aU⟩;obtain⟨q3,A3,n3,m3,rfl,gV,Dc,bR⟩:=vw;dsimp only at gV bR |-;have dd:Hid (L<wk.heap.size):=jq (World.block_lt_of_cell? _ _ c0);replace c0:=(aU.cell (p:=⟨L,0,none⟩) (dd.out)).trans c0;replace c1:=(aU.cell (p:=⟨L,1,none⟩) (dd.out)).trans c1;replace c2:=(aU.cell (p:=⟨L,2,none⟩) (dd.out)).trans c2;replace c3:=(aU.cell (p:=⟨L,3,none⟩) (dd.out)).trans c3;replace c4:=(aU.cell (p:=⟨L,4,none⟩) (dd.out)).trans c4;replace c5:=(aU.cell (p:=⟨L,5,none⟩) (dd.out)).trans c5;replace c6:=(aU.cell (p:=⟨L,6,none⟩) (dd.out)).trans c6;replace c7:=(aU.cell (p:=⟨L,7,none⟩) (dd.out)).trans c7;replace c8:=(aU.cell (p:=⟨L,8,none⟩) (dd.out)).trans c8;replace c9:=(aU.cell (p:=⟨L,9,none⟩) (dd.out)).trans c9;replace c15:=(aU.cell (p:=⟨L,15,none⟩) (dd.out)).trans c15;replace c16:=(aU.cell (p:=⟨L,16,none⟩) (dd.out)).trans c16;replace c17:=(aU.cell (p:=⟨L,17,none⟩) (dd.out)).trans c17;replace c18:=(aU.cell (p:=⟨L,18,none⟩) (dd.out)).trans c18;replace c19:=(aU.cell (p:=⟨L,19,none⟩) (dd.out)).trans c19;have lM:Hid (jX wj wj.heap.size [.int .i64 3,.string q3,.int .i64 7,.slice A3 n3 m3] ⟨3,([120],7),[]⟩):=jq ⟨q3,A3,n3,m3,rfl,gV,Dc,bR⟩;have eL:=jq aU;clear gV bR aU;refine cM 12 (D:=[0,1,2,3,4,5,6,7,8,9,10,11]) (val:=eo L d0 g0 d1 g1 d2 g2 d3 g3 (.slice (some ⟨wd.heap.size,0,none⟩) 3 3) (.agg #[.int .i64 3,.string q3,.int .i64 7,.slice A3 n3 m3]) (.pointer (some ⟨w4.heap.size,0,none⟩))) jj kW (hH.next jj kW hr) (by kernel_rfl) ?_ ?_
      ·intro i au aI o ho a' hb ao;have k1':=adJ hb kB.out;simp[Act.eval] at k1'
       repeat' (rcases au with _ | ⟨_,au⟩)
       all_goals first
        | (exfalso;simp at aI;done)
        | (cases ho
           try simp[Act.eval,Region.binds,eo,gR] at ao
           refine cC (by simp[Region.wanted]) ?_;simp[Oper.quietAt,Oper.quietUpon,execOp,go_sem,eo,k1',c0,c1,c2,c3,c4,c5,c6,c7,c8,c9,c15,c16,c17,c18,c19,ao])
      ·intro f listed a' hH hr hv;have av10:=hv 10;have av11:=hv 11;simp[Act.eval,eo,gR] at av10 av11;simp only[wpOp];simp[Region.wanted];refine .inl ?_;have aY:=(eL.out.block w4.heap.size (lqQ kG.out ni.out.size)).trans ((ni.out.block w4.heap.size kG.out).trans jR.out);have y0:=af _ aY 0 _ rfl;have f0:wj.frozen? ⟨w4.heap.size,0,none⟩=false:=by simp[World.frozen?,aY]
       have y1:=af _ aY 1 _ rfl;have f1:wj.frozen? ⟨w4.heap.size,1,none⟩=false:=by simp[World.frozen?,aY]
       have y2:=af _ aY 2 _ rfl;have f2:wj.frozen? ⟨w4.heap.size,2,none⟩=false:=by simp[World.frozen?,aY]
       have y3:=af _ aY 3 _ rfl;have f3:wj.frozen? ⟨w4.heap.size,3,none⟩=false:=by simp[World.frozen?,aY]
       simp[Oper.wp,execOp,go_sem,av10,av11,y0,y1,y2,y3,f0,f1,f2,f3];refine nU hH hr HM.out jj (by kernel_rfl) λeO=>?_
       ·rw[eO];have hE:w4.heap.size<=w4.heap.size:=by have h1:=ni.out.size;have h2:=eL.out.size;have h3:=aJ.out.size;omega
        refine⟨wd.heap.size,w4.heap.size,q3,A3,n3,m3,rfl,rfl,by simp[World.setCell,Array.getElem?_modify,aY],?_,Cb (aJ.out.trans ((ni.out.trans (eL.out.mono ni.out.size)).mono aJ.out.size)) hE _ _ _ _⟩;exact Mt (lM.out) _
 rintro ex a' w5 ⟨K,b3,q3,A3,n3,m3,rfl,rfl,Tg,vw,aO⟩;clear c0 c1 c2 c3 c4 c5 c6 c7 c8 c9 c15 c16 c17 c18 c19 di;rw[jt.out];simp[kq,Act.put,eo,gR];have O0:=jq Tg;have Zu:=jq vw;have xm:=sK.out.trans (aO.mono sK.out.size);have kJ:=jq (s9.out.keep xm);have y9:=jq ((ju.out.keep xm).more xm.size);have bx:=jq (aw.out.trans (xm.mono aw.out.size));have OP:=jq ((xm.block b2 mh).trans HY2.out);have Zh:=jq (Zl.out.later xm);clear Tg vw aO xm;go_wp2_with fail;refine (yc (.slice (some ⟨L,0,none⟩) 3 4) [Np.ex0,Np.ex1,Np.ex2] (jq (Np.t7 (by kernel_rfl))) (by kernel_rfl) 50 rfl _ Np.axY w5 y9.out kJ.out.first Np.exfn).mono ?_;rintro e w6j ⟨ee,rfl,hv,aU⟩;obtain⟨q4,A4,n4,m4,rfl,hq,dV,hs⟩:=hv;dsimp only at hq hs |-;have lM:Hid (jX w6j w6j.heap.size [.int .i64 3,.string q4,.int .i64 1,.slice A4 n4 m4] ⟨3,([119,46,120],1),[]⟩):=jq ⟨q4,A4,n4,m4,rfl,hq,dV,hs⟩;obtain⟨w6,nM⟩:=aaK (w6j.alloc (.cells #[.int .i64 3,.string q4,.int .i64 1,.slice A4 n4 m4] 33));have eU:Below w6j.heap.size w6j w6:=by rw[<-nM];exact aG _ _
 have eG:w6.heap[w6j.heap.size]?=some (.cells [Value.int .i64 3,.string q4,.int .i64 1,.slice A4 n4 m4].toArray 33 (0,0)):=by rw[<-nM];exact heap_alloc_new _ _
 obtain⟨b4,eE⟩:=aaK w6j.heap.size;have ZI:=jq (lM.out.later eU);rw[eE] at eG;have Pc:=jq eG;have dT:=aU.trans (eU.mono aU.size);have jT:=jq ((y9.out.keep dT).more dT.size);have bH:=jq (bx.out.trans (dT.mono bx.out.size));have ta:=jq (kJ.out.keep dT);have OQ:=jq ((dT.block b2 (eQ.1 OP.out).1).trans OP.out);have Zi:=jq (Zh.out.later dT);have O1:=jq ((dT.block b3 (eQ.1 O0.out).1).trans O0.out);have Zv:=jq (Zu.out.later dT);clear hq hs aU eU eG dT;go_wp2_with fail;clear nM eE lM;go_wp2_with fail;refine (yc (.slice (some ⟨L,0,none⟩) 4 4) [Np.ex0,Np.ex1,Np.ex2,Np.ex3] (jq (Np.t7 (by kernel_rfl))) (by kernel_rfl) 96 rfl _ Np.axZ w6 jT.out (by have h:=ta.out.all;rwa [Np.Ff] at h) Np.Fg).mono ?_;rintro e w7j ⟨ee,rfl,hv,aU⟩;obtain⟨q5,A5,n5,m5,rfl,hq,dV,hs⟩:=hv;dsimp only at hq hs |-;have lM:Hid (jX w7j w7j.heap.size [.int .i64 2,.string q5,.int .i64 0,.slice A5 n5 m5] ⟨2,([],0),[]⟩):=jq ⟨q5,A5,n5,m5,rfl,hq,dV,hs⟩;obtain⟨w7,nM⟩:=aaK (w7j.alloc (.cells #[.int .i64 2,.string q5,.int .i64 0,.slice A5 n5 m5] 33));have eU:Below w7j.heap.size w7j w7:=by rw[<-nM];exact aG _ _
 have eG:w7.heap[w7j.heap.size]?=some (.cells [Value.int .i64 2,.string q5,.int .i64 0,.slice A5 n5 m5].toArray 33 (0,0)):=by rw[<-nM];exact heap_alloc_new _ _
 obtain⟨b5,eE⟩:=aaK w7j.heap.size;have ZV:=jq (lM.out.later eU);rw[eE] at eG;have Pp:=jq eG;have dT:=aU.trans (eU.mono aU.size);have wE:=jq ((jT.out.keep dT).more dT.size);have cw:=jq (bH.out.trans (dT.mono bH.out.size));have OE:=jq (ta.out.keep dT);have OR:=jq ((dT.block b2 (eQ.1 OQ.out).1).trans OQ.out);have Zj:=jq (Zi.out.later dT);have O2:=jq ((dT.block b3 (eQ.1 O1.out).1).trans O1.out);have Zw:=jq (Zv.out.later dT);have Pd:=jq ((dT.block b4 (eQ.1 Pc.out).1).trans Pc.out);have ZJ:=jq (ZI.out.later dT);clear hq hs aU eU eG dT;go_wp2_with fail;clear nM eE lM;go_wp2_with fail;refine (QA w7 wE.out).mono ?_;rintro e w8 ⟨L',d0',g0',d1',g1',d2',g2',d3',g3',rfl,hex,RY,cA⟩;have WX:=jq hex;have yD:=jq cA;have r0:=af _ hex.l 15 _ rfl;have r4:=af _ hex.l 19 _ rfl;have s5:=af _ hex.o3.g 5 _ rfl;have sf:w8.frozen? ⟨g3',5,none⟩=false:=by simp[World.frozen?,hex.o3.g]
 clear hex cA;go_wp2_with fail;obtain⟨w9,iD⟩:=aaK (w8.setCell ⟨g3',5,none⟩ (.int .u64 (IntKind.u64.wrap ((Np.m9 Np.ex3.set ⟨#[120]⟩ 3 1 0 100)+1))));rw[iD];have FJ:IntKind.u64.wrap ((Np.m9 Np.ex3.set ⟨#[120]⟩ 3 1 0 100)+1)=Np.Fe:=by kernel_rfl
 have Bd:Hid (ExL w9 L' d0' g0' d1' g1' d2' g2' d3' g3' Np.Fe):=jq (by rw[<-iD,FJ];exact WX.out.bump _);have cG:Below w7.heap.size w7 w9:=by rw[<-iD];exact yD.out.setCell (p:=⟨g3',5,none⟩) RY _
 have bP:=jq ((wE.out.keep cG).more cG.size);have eJ:=jq (cw.out.trans (cG.mono cw.out.size));have Jf:=jq (OE.out.keep cG);have OS:=jq ((cG.block b2 (eQ.1 OR.out).1).trans OR.out);have Zk:=jq (Zj.out.later cG);have O3:=jq ((cG.block b3 (eQ.1 O2.out).1).trans O2.out);have Zx:=jq (Zw.out.later cG);have Pe:=jq ((cG.block b4 (eQ.1 Pd.out).1).trans Pd.out);have ZK:=jq (ZJ.out.later cG);have Pq:=jq ((cG.block b5 (eQ.1 Pp.out).1).trans Pp.out);have ZW:=jq (ZV.out.later cG);clear cG iD r0 r4 s5 sf RY;refine (yc (.slice (some ⟨L',0,none⟩) 4 4) [Np.ex0,Np.ex1,Np.ex2,Np.exB Np.Fe] (jq (Np.t7 (by kernel_rfl))) (by kernel_rfl) 50 rfl _ Np.axQ w9 bP.out Bd.out.all (Np.exfb _)).mono ?_;rintro e w10j ⟨ee,rfl,hv,aU⟩;obtain⟨q7,A7,n7,m7,rfl,hq,dV,hs⟩:=hv;dsimp only at hq hs |-;have lM:Hid (jX w10j w10j.heap.size [.int .i64 2,.string q7,.int .i64 0,.slice A7 n7 m7] ⟨2,([],0),[]⟩):=jq ⟨q7,A7,n7,m7,rfl,hq,dV,hs⟩;obtain⟨w10,nM⟩:=aaK (w10j.alloc (.cells #[.int .i64 2,.string q7,.int .i64 0,.slice A7 n7 m7] 33));have eU:Below w10j.heap.size w10j w10:=by rw[<-nM];exact aG _ _
 have eG:w10.heap[w10j.heap.size]?=some (.cells [Value.int .i64 2,.string q7,.int .i64 0,.slice A7 n7 m7].toArray 33 (0,0)):=by rw[<-nM];exact heap_alloc_new _ _
 obtain⟨b7,eE⟩:=aaK w10j.heap.size;have ZX:=jq (lM.out.later eU);rw[eE] at eG;have Pr:=jq eG;have dT:=aU.trans (eU.mono aU.size);have IL:=jq ((bP.out.keep dT).more dT.size);have yC:=jq (eJ.out.trans (dT.mono eJ.out.size));have abZ:=jq (Jf.out.keep dT);have OI:=jq ((dT.block b2 (eQ.1 OS.out).1).trans OS.out);have Zb:=jq (Zk.out.later dT);have OT:=jq ((dT.block b3 (eQ.1 O3.out).1).trans O3.out);have Zm:=jq (Zx.out.later dT);have O4:=jq ((dT.block b4 (eQ.1 Pe.out).1).trans Pe.out);have Zz:=jq (ZK.out.later dT);have Pf:=jq ((dT.block b5 (eQ.1 Pq.out).1).trans Pq.out);have ZL:=jq (ZW.out.later dT);clear hq hs aU eU eG dT;go_wp2_with fail;clear nM eE lM;go_wp2_with fail;obtain⟨D1,qk⟩:=aaK w10.heap.size;rw[qk];obtain⟨D2,Rd⟩:=aaK (D1+1);rw[Rd];obtain⟨D3,Re⟩:=aaK (D2+1);rw[Re];obtain⟨RW,Rt⟩:=aaK (D3+1);rw[Rt];obtain⟨b8,cA⟩:=aaK (RW+1);rw[cA];obtain⟨b9,cW⟩:=aaK (b8+1);rw[cW];obtain⟨w11,qR⟩:=aaK (w10.alloc (.cells #[.string ⟨#[97,46,121,46,120]⟩,.int .i64 0,.int .i64 0] 75));rw[qR];obtain⟨w12,Dm⟩:=aaK (w11.alloc (.cells #[.string ⟨#[]⟩,.int .i64 1,.int .i64 0] 75));rw[Dm];obtain⟨w13,zV⟩:=aaK (w12.alloc (.cells #[.string ⟨#[]⟩,.int .i64 2,.int .i64 0] 75));rw[zV];obtain⟨w14,Dn⟩:=aaK (w13.alloc (.cells #[.string ⟨#[121,46,120]⟩,.int .i64 2,.int .i64 0,.slice (some ⟨D1,0,none⟩) 1 1,.slice none 0 0,.string ⟨#[97,46,121,46,120]⟩,.int .i64 1,.int .i64 0,.slice (some ⟨D2,0,none⟩) 1 1,.slice none 0 0,.string ⟨#[98,46,121,46,120]⟩,.int .i64 1,.int .i64 0,.slice (some ⟨D3,0,none⟩) 1 1,.slice none 0 0] 44));rw[Dn];obtain⟨w15,zW⟩:=aaK (w14.alloc (.cells #[.int .i64 4,.slice (some ⟨RW,0,none⟩) 3 3,.string ⟨#[121,46,120]⟩] 29));rw[zW];obtain⟨w16,Gk⟩:=aaK (w15.alloc (.cells #[.string ⟨#[99,46,121,46,120]⟩,.int .i64 1] 27));rw[Gk];have s11:w11.heap.size=D2:=by rw[<-qR];simp;omega
 have s12:w12.heap.size=D3:=by rw[<-Dm];simp;omega
 have s13:w13.heap.size=RW:=by rw[<-zV];simp;omega
 have s14:w14.heap.size=b8:=by rw[<-Dn];simp;omega
 have s15:w15.heap.size=b9:=by rw[<-zW];simp;omega
 have e11:Below w10.heap.size w10 w11:=by rw[<-qR];exact aG _ _
 have e12:Below w11.heap.size w11 w12:=by rw[<-Dm];exact aG _ _
 have e13:Below w12.heap.size w12 w13:=by rw[<-zV];exact aG _ _
 have e14:Below w13.heap.size w13 w14:=by rw[<-Dn];exact aG _ _
 have e15:Below w14.heap.size w14 w15:=by rw[<-zW];exact aG _ _
 have e16:Below w15.heap.size w15 w16:=by rw[<-Gk];exact aG _ _
 have f15:=e15.trans (e16.abQ);have f14:=e14.trans (f15.abQ);have f13:=e13.trans (f14.abQ);have f12:=e12.trans (f13.abQ);have f11:=e11.trans (f12.abQ);have Oh:Hid (RefRow w16 RW D1 D2 D3):=jq ⟨(f15.block RW (by omega)).trans (by rw[<-Dn,<-s13];exact heap_alloc_new _ _),(f12.block D1 (by omega)).trans (by rw[<-qR,<-qk];exact heap_alloc_new _ _),(f13.block D2 (by omega)).trans (by rw[<-Dm,<-s11];exact heap_alloc_new _ _),(f14.block D3 (by omega)).trans (by rw[<-zV,<-s12];exact heap_alloc_new _ _)⟩;have MQ:Hid (w16.heap[b8]?=some (.cells [Value.int .i64 4,.slice (some ⟨RW,0,none⟩) 3 3,.string ⟨#[121,46,120]⟩].toArray 29 (0,0))):=jq ((e16.block b8 (by omega)).trans (by rw[<-zW,<-s14];exact heap_alloc_new _ _));have N0:Hid (w16.heap[b9]?=some (.cells [Value.string ⟨#[99,46,121,46,120]⟩,.int .i64 1].toArray 27 (0,0))):=jq (by rw[<-Gk,<-s15];exact heap_alloc_new _ _);have Ob:=jq ((IL.out.keep f11).more f11.size);have MZ:=jq (yC.out.trans (f11.mono yC.out.size));have abJ:=jq (abZ.out.keep f11);have OJ:=jq ((f11.block b2 (eQ.1 OI.out).1).trans OI.out);have Zc:=jq (Zb.out.later f11);have OU:=jq ((f11.block b3 (eQ.1 OT.out).1).trans OT.out);have Zn:=jq (Zm.out.later f11);have O5:=jq ((f11.block b4 (eQ.1 O4.out).1).trans O4.out);have ZA:=jq (Zz.out.later f11);have Pg:=jq ((f11.block b5 (eQ.1 Pf.out).1).trans Pf.out);have ZM:=jq (ZL.out.later f11);have Ps:=jq ((f11.block b7 (eQ.1 Pr.out).1).trans Pr.out);have ZY:=jq (ZX.out.later f11);clear e11 e12 e13 e14 e15 e16 f11 f12 f13 f14 f15 s11 s12 s13 s14 s15 qR Dm zV Dn zW Gk qk Rd Re Rt cA cW;have hf:Np.nt (⟨#[120]⟩:ByteArray).data.toList (⟨#[99,46,121,46,120]⟩:ByteArray).data.toList 1 Np.rb=([Np.rfS,Np.rfA],0):=Np.bsQ;have bw:=Fj ⟨#[120]⟩ ⟨#[99,46,121,46,120]⟩ (by decide) (by decide) 1 Np.rb [.int .i64 4,.slice (some ⟨RW,0,none⟩) 3 3,.string ⟨#[121,46,120]⟩] w16 Ob.out Oh.out.ans Np.L4;rw[hf] at bw;refine bw.mono ?_;rintro e w17 ⟨Af1,nf1,mf1,rfl,hs,hb⟩;have W4:Hid (SlR az 5 w17 w17.heap.size (.slice Af1 nf1 mf1) [Np.rfS,Np.rfA]):=jq hs;have Oc:=jq ((Ob.out.keep hb).more hb.size);have M0:=jq (MZ.out.trans (hb.mono MZ.out.size));have abK:=jq (abJ.out.keep hb);have OL:=jq ((hb.block b2 (eQ.1 OJ.out).1).trans OJ.out);have Zd:=jq (Zc.out.later hb);have OV:=jq ((hb.block b3 (eQ.1 OU.out).1).trans OU.out);have Zo:=jq (Zn.out.later hb);have O6:=jq ((hb.block b4 (eQ.1 O5.out).1).trans O5.out);have ZB:=jq (ZA.out.later hb);have Ph:=jq ((hb.block b5 (eQ.1 Pg.out).1).trans Pg.out);have ZN:=jq (ZM.out.later hb);have Pt:=jq ((hb.block b7 (eQ.1 Ps.out).1).trans Ps.out);have ZZ:=jq (ZY.out.later hb);have Oi:=jq (Oh.out.keep hb);have AJ:=jq ((hb.block b8 (eQ.1 MQ.out).1).trans MQ.out);have EG:=jq ((hb.block b9 (eQ.1 N0.out).1).trans N0.out);clear hs hb hf bw;have a0:=af _ AJ.out 0 _ rfl;have a1:=af _ AJ.out 1 _ rfl;have a2:=af _ AJ.out 2 _ rfl;have k0:=af _ EG.out 0 _ rfl;have k1:=af _ EG.out 1 _ rfl;go_wp2_with fail;clear a0 a1 a2 k0 k1;have hf:Np.nt (⟨#[121,46,120]⟩:ByteArray).data.toList (⟨#[99,46,121,46,120]⟩:ByteArray).data.toList 1 Np.rb=([],0):=Np.brY;have bw:=Fj ⟨#[121,46,120]⟩ ⟨#[99,46,121,46,120]⟩ (by decide) (by decide) 1 Np.rb [.int .i64 4,.slice (some ⟨RW,0,none⟩) 3 3,.string ⟨#[121,46,120]⟩] w17 Oc.out Oi.out.ans Np.L4;rw[hf] at bw;refine bw.mono ?_;rintro e w18 ⟨Af2,nf2,mf2,rfl,hs,hb⟩;have Xe:Hid (SlR az 5 w18 w18.heap.size (.slice Af2 nf2 mf2) []):=jq hs;have Od:=jq ((Oc.out.keep hb).more hb.size);have M1:=jq (M0.out.trans (hb.mono M0.out.size));have abX:=jq (abK.out.keep hb);have OM:=jq ((hb.block b2 (eQ.1 OL.out).1).trans OL.out);have Ze:=jq (Zd.out.later hb);have OW:=jq ((hb.block b3 (eQ.1 OV.out).1).trans OV.out);have Zp:=jq (Zo.out.later hb);have O7:=jq ((hb.block b4 (eQ.1 O6.out).1).trans O6.out);have ZC:=jq (ZB.out.later hb);have Pi:=jq ((hb.block b5 (eQ.1 Ph.out).1).trans Ph.out);have ZO:=jq (ZN.out.later hb);have Pu:=jq ((hb.block b7 (eQ.1 Pt.out).1).trans Pt.out);have Z0:=jq (ZZ.out.later hb);have Oj:=jq (Oi.out.keep hb);have AK:=jq ((hb.block b8 (eQ.1 AJ.out).1).trans AJ.out);have EH:=jq ((hb.block b9 (eQ.1 EG.out).1).trans EG.out);have W5:=jq (W4.out.later ax aK hb);clear hs hb hf bw;have a0:=af _ AK.out 0 _ rfl;have a1:=af _ AK.out 1 _ rfl;have a2:=af _ AK.out 2 _ rfl;have k0:=af _ EH.out 0 _ rfl;have k1:=af _ EH.out 1 _ rfl;go_wp2_with fail;clear a0 a1 a2 k0 k1;have hf:Np.nt (⟨#[42]⟩:ByteArray).data.toList (⟨#[99,46,121,46,120]⟩:ByteArray).data.toList 1 Np.rb=([],1):=Np.brX;have bw:=Fj ⟨#[42]⟩ ⟨#[99,46,121,46,120]⟩ (by decide) (by decide) 1 Np.rb [.int .i64 4,.slice (some ⟨RW,0,none⟩) 3 3,.string ⟨#[121,46,120]⟩] w18 Od.out Oj.out.ans Np.L4;rw[hf] at bw;refine bw.mono ?_;rintro e w19 ⟨Af3,nf3,mf3,rfl,hs,hb⟩;have bSZ:Hid (SlR az 5 w19 w19.heap.size (.slice Af3 nf3 mf3) []):=jq hs;have Yu:=jq ((Od.out.keep hb).more hb.size);have M2:=jq (M1.out.trans (hb.mono M1.out.size));have abY:=jq (abX.out.keep hb);have ON:=jq ((hb.block b2 (eQ.1 OM.out).1).trans OM.out);have Zf:=jq (Ze.out.later hb);have OX:=jq ((hb.block b3 (eQ.1 OW.out).1).trans OW.out);have Zq:=jq (Zp.out.later hb);have O8:=jq ((hb.block b4 (eQ.1 O7.out).1).trans O7.out);have ZD:=jq (ZC.out.later hb);have Pj:=jq ((hb.block b5 (eQ.1 Pi.out).1).trans Pi.out);have ZP:=jq (ZO.out.later hb);have Pv:=jq ((hb.block b7 (eQ.1 Pu.out).1).trans Pu.out);have Z1:=jq (Z0.out.later hb);have YE:=jq (Oj.out.keep hb);have MR:=jq ((hb.block b8 (eQ.1 AK.out).1).trans AK.out);have N3:=jq ((hb.block b9 (eQ.1 EH.out).1).trans EH.out);have W6:=jq (W5.out.later ax aK hb);have Xf:=jq (Xe.out.later ax aK hb);clear hs hb hf bw;go_wp2_with fail;obtain⟨w20,Do⟩:=aaK w19.drew;have jh:Below w19.heap.size w19 w20:=by rw[<-Do];exact (vQ _ _).drew
 have IM:=jq ((Yu.out.keep jh).more jh.size);have M3:=jq (M2.out.trans (jh.mono M2.out.size));have mD:=jq (abY.out.keep jh);have OO:=jq ((jh.block b2 (eQ.1 ON.out).1).trans ON.out);have Zg:=jq (Zf.out.later jh);have OY:=jq ((jh.block b3 (eQ.1 OX.out).1).trans OX.out);have Zr:=jq (Zq.out.later jh);have O9:=jq ((jh.block b4 (eQ.1 O8.out).1).trans O8.out);have ZE:=jq (ZD.out.later jh);have Pk:=jq ((jh.block b5 (eQ.1 Pj.out).1).trans Pj.out);have ZQ:=jq (ZP.out.later jh);have Pw:=jq ((jh.block b7 (eQ.1 Pv.out).1).trans Pv.out);have Z2:=jq (Z1.out.later jh);have YF:=jq (YE.out.keep jh);have W7:=jq (W6.out.later ax aK jh);have Xg:=jq (Xf.out.later ax aK jh);have MS:=jq ((jh.block b8 (eQ.1 MR.out).1).trans MR.out);have y8:=jq ((jh.block b9 (eQ.1 N3.out).1).trans N3.out);clear jh;have k0:=af _ y8.out 0 _ rfl;have k1:=af _ y8.out 1 _ rfl;have c5:=af _ mD.out.l 5 _ rfl;have c6:=af _ mD.out.l 6 _ rfl;have c7:=af _ mD.out.l 7 _ rfl;have c8:=af _ mD.out.l 8 _ rfl;have Ot:Hid (SlR az 5 w20 w20.heap.size (.slice (some ⟨L,0,none⟩) 4 4) [Np.ex0,Np.ex1,Np.ex2,Np.ex3]):=jq (by have h:=mD.out.all;rwa [Np.Ff] at h);have Nv:Hid (SlR cm 3 w20 w20.heap.size (.slice (some ⟨d1,0,none⟩) 1 1) Np.ex1.set.data):=jq (by
  obtain⟨_,_,_,_,_,h3,_,h5⟩:=mD.out.at1.2;simp only[List.cons.injEq,and_true] at h5;obtain⟨_,_,_,rfl,_⟩:=h5;exact h3)
 have gM:Hid (L<w20.heap.size):=jq (World.block_lt_of_cell? _ _ c5);have oR:Hid (b9<w20.heap.size):=jq (World.block_lt_of_cell? _ _ k0);refine yz λa0 bD=>?_;have jt:=jq bD;have kB:=jq (show a0.eval (.tmp 1) = .slice (some ⟨L,0,none⟩) 4 4 by rw[bD];rfl);have vT:=jq (show a0.eval (.tmp 9) = .pointer (some ⟨b9,0,none⟩) by rw[bD];rfl);have BJ:=jq (show a0.eval (.tmp 0) = .bool false by rw[bD];rfl);have HM:=jq (show a0.tmps.size=157 by rw[bD];rfl);clear bD;refine Go.wp_mono (Q:=Hd14 a0 L d0 g0 d1 g1 d2 g2 d3 g3 b9 w20) (wp_region_any (by kernel_rfl) ?_) ?_
 case refine_1=>
  try rw[show ({ heap:=w19.heap,tape:=w19.tape,drawn:=w19.drawn+1,os:=w19.os,output:=w19.output } : World)=w20 from Do]
  try rw[Do]
  clear Do;refine bCY [6,10] 6 (D:=[0,1,2,3,4,5]) (val:=fH L d0 g0 d1 g1 d2 g2 d3 g3 b9 undef undef undef) tx tz (rR HM.out) (by kernel_rfl) ?_ ?_
  ·intro i au aI o ho a' hb ao;have k1':=adJ hb kB.out;have k9':=adJ hb vT.out;simp[Act.eval] at k1' k9'
   repeat' (rcases au with _ | ⟨_,au⟩)
   all_goals first
    | (exfalso;simp at aI;done)
    | (cases ho
       try simp[Act.eval,Region.binds,fH,gF] at ao
       refine cC (by simp[Region.wanted]) ?_;simp[Oper.quietAt,Oper.quietUpon,execOp,go_sem,fH,k1',k9',c5,c6,c7,c8,k0,k1,mL,mM,ao])
  ·intro p jG
   repeat' (rcases jG with _ | ⟨_,jG⟩)
   ·intro f listed a' hH hr hv;have av0:=hv 0;have av4:=hv 4;have av5:=hv 5;simp[Act.eval,fH,gF,mL,mM] at av0 av4 av5;simp only[wpOp];simp[Region.wanted];refine .inl ?_;simp[Oper.wp,go_sem,av0,av4,av5];have bw:=LE (.slice (some ⟨L,0,none⟩) 4 4) [Np.ex0,Np.ex1,Np.ex2,Np.ex3] (jq (Np.t7 (by kernel_rfl))) ⟨#[120]⟩ ⟨#[99,46,121,46,120]⟩ Np.ex1.set rfl (by decide) (.slice (some ⟨d1,0,none⟩) 1 1) 1 50 5 (by decide) w20 IM.out Ot.out Np.Fg Nv.out (jq ⟨by kernel_rfl,by kernel_rfl,rfl,by kernel_rfl,by kernel_rfl⟩);rw[show Np.mX [Np.ex0,Np.ex1,Np.ex2,Np.ex3] Np.ex1.set (⟨#[99,46,121,46,120]⟩:ByteArray).data.toList 1 50 5=(⟨0,([],0),[]⟩,1) from Np.Qy] at bw;refine bw.mono ?_;clear bw;rintro e wj ⟨qg,Ag,ng,mg,rfl,_,_,_,aU⟩;replace c5:=(aU.cell (p:=⟨L,5,none⟩) (gM.out)).trans c5;replace c6:=(aU.cell (p:=⟨L,6,none⟩) (gM.out)).trans c6;replace c7:=(aU.cell (p:=⟨L,7,none⟩) (gM.out)).trans c7;replace c8:=(aU.cell (p:=⟨L,8,none⟩) (gM.out)).trans c8;replace k0:=(aU.cell (p:=⟨b9,0,none⟩) (oR.out)).trans k0;replace k1:=(aU.cell (p:=⟨b9,1,none⟩) (oR.out)).trans k1;have eL:=jq aU;have NJ:=jq aU;clear aU;dsimp only;refine cM 10 (D:=[0,1,2,3,4,5,7,8,9,6]) (val:=fH L d0 g0 d1 g1 d2 g2 d3 g3 b9 (.tuple #[.agg #[.int .i64 0,.string qg,.int .i64 0,.slice Ag ng mg],.int .i64 1]) undef undef) tx tz (hH.next tx tz hr) (by kernel_rfl) ?_ ?_
    ·intro i au aI o ho a' hb ao;have k1':=adJ hb kB.out;have k9':=adJ hb vT.out;simp[Act.eval] at k1' k9'
     repeat' (rcases au with _ | ⟨_,au⟩)
     all_goals first
      | (exfalso;simp at aI;done)
      | (cases ho
         try simp[Act.eval,Region.binds,fH,gF] at ao
         refine cC (by simp[Region.wanted]) ?_;simp[Oper.quietAt,Oper.quietUpon,execOp,go_sem,fH,k1',k9',c5,c6,c7,c8,k0,k1,mL,mM,ao])
    ·intro f listed a' hH hr hv;simp only[wpOp];simp[Region.wanted];refine .inl ?_;simp[Oper.wp,execOp,go_sem];obtain⟨wd,bp⟩:=aaX (wj.alloc (.cells #[.int .i64 0,.string ⟨#[]⟩,.int .i64 0,.slice none 0 0] 33));rw[<-bp];have ez:Below wj.heap.size wj wd:=by rw[bp];exact aG _ _
     have jR:Hid (wd.heap[wj.heap.size]?=some (.cells [Value.int .i64 0,.string ⟨#[]⟩,.int .i64 0,.slice none 0 0].toArray 33 (0,0))):=jq (by rw[bp];exact heap_alloc_new _ _);have kG:Hid (wj.heap.size<wd.heap.size):=jq (by rw[bp];simp);replace c5:=(ez.cell (p:=⟨L,5,none⟩) (by have h1:=gM.out;have h2:=eL.out.size;dsimp only;omega)).trans c5;replace c6:=(ez.cell (p:=⟨L,6,none⟩) (by have h1:=gM.out;have h2:=eL.out.size;dsimp only;omega)).trans c6;replace c7:=(ez.cell (p:=⟨L,7,none⟩) (by have h1:=gM.out;have h2:=eL.out.size;dsimp only;omega)).trans c7;replace c8:=(ez.cell (p:=⟨L,8,none⟩) (by have h1:=gM.out;have h2:=eL.out.size;dsimp only;omega)).trans c8;replace k0:=(ez.cell (p:=⟨b9,0,none⟩) (by have h1:=oR.out;have h2:=eL.out.size;dsimp only;omega)).trans k0;replace k1:=(ez.cell (p:=⟨b9,1,none⟩) (by have h1:=oR.out;have h2:=eL.out.size;dsimp only;omega)).trans k1;have aJ:=jq (eL.out.trans (ez.mono eL.out.size));clear bp ez;refine cM 11 (D:=[0,1,2,3,4,5,7,8,9,6,10]) (val:=fH L d0 g0 d1 g1 d2 g2 d3 g3 b9 (.tuple #[.agg #[.int .i64 0,.string qg,.int .i64 0,.slice Ag ng mg],.int .i64 1]) (.pointer (some ⟨wj.heap.size,0,none⟩)) undef) tx tz (hH.next tx tz hr) (by kernel_rfl) ?_ ?_
     ·intro i au aI o ho a' hb ao;have k1':=adJ hb kB.out;have k9':=adJ hb vT.out;simp[Act.eval] at k1' k9'
      repeat' (rcases au with _ | ⟨_,au⟩)
      all_goals first
       | (exfalso;simp at aI;done)
       | (cases ho
          try simp[Act.eval,Region.binds,fH,gF] at ao
          refine cC (by simp[Region.wanted]) ?_;simp[Oper.quietAt,Oper.quietUpon,execOp,go_sem,fH,k1',k9',c5,c6,c7,c8,k0,k1,mL,mM,ao])
     ·intro f listed a' hH hr hv;have av8:=hv 8;have av10:=hv 10;simp[Act.eval,fH,gF,mL,mM] at av8 av10;simp only[wpOp];simp[Region.wanted];refine .inl ?_;have aY:=jR.out;have y0:=af _ aY 0 _ rfl;have f0:wd.frozen? ⟨wj.heap.size,0,none⟩=false:=by simp[World.frozen?,aY]
      have y1:=af _ aY 1 _ rfl;have f1:wd.frozen? ⟨wj.heap.size,1,none⟩=false:=by simp[World.frozen?,aY]
      have y2:=af _ aY 2 _ rfl;have f2:wd.frozen? ⟨wj.heap.size,2,none⟩=false:=by simp[World.frozen?,aY]
      have y3:=af _ aY 3 _ rfl;have f3:wd.frozen? ⟨wj.heap.size,3,none⟩=false:=by simp[World.frozen?,aY]
      simp[Oper.wp,execOp,go_sem,av8,av10,y0,y1,y2,y3,f0,f1,f2,f3];have hE:w20.heap.size<=wj.heap.size:=by first | exact bQ _ | exact eL.out.size
      have nA:=Cb (aJ.out) hE (.int .i64 0) (.string qg) (.int .i64 0) (.slice Ag ng mg);obtain⟨ws,Ds⟩:=aaX ((((wd.setCell ⟨wj.heap.size,0,none⟩ (.int .i64 0)).setCell ⟨wj.heap.size,1,none⟩ (.string qg)).setCell ⟨wj.heap.size,2,none⟩ (.int .i64 0)).setCell ⟨wj.heap.size,3,none⟩ (.slice Ag ng mg));rw[<-Ds] at nA |-;have kD:=jq nA;clear Ds nA aY y0 y1 y2 y3 f0 f1 f2 f3 c5 c6 c7 c8 k0 k1;have c5:=(kD.out.cell (p:=⟨L,5,none⟩) gM.out).trans (af _ mD.out.l 5 _ rfl);have c6:=(kD.out.cell (p:=⟨L,6,none⟩) gM.out).trans (af _ mD.out.l 6 _ rfl);have c7:=(kD.out.cell (p:=⟨L,7,none⟩) gM.out).trans (af _ mD.out.l 7 _ rfl);have c8:=(kD.out.cell (p:=⟨L,8,none⟩) gM.out).trans (af _ mD.out.l 8 _ rfl);have k0:=(kD.out.cell (p:=⟨b9,0,none⟩) oR.out).trans (af _ y8.out 0 _ rfl);have k1:=(kD.out.cell (p:=⟨b9,1,none⟩) oR.out).trans (af _ y8.out 1 _ rfl);refine cM 12 (D:=[0,1,2,3,4,5,7,8,9,6,10,11]) (val:=fH L d0 g0 d1 g1 d2 g2 d3 g3 b9 (.tuple #[.agg #[.int .i64 0,.string qg,.int .i64 0,.slice Ag ng mg],.int .i64 1]) (.pointer (some ⟨wj.heap.size,0,none⟩)) (.bool false)) FT RR (hH.skip hr (hv:=BJ.out.symm)) (by kernel_rfl) ?_ ?_
      ·intro i au aI o ho a' hb ao;have k1':=adJ hb kB.out;have k9':=adJ hb vT.out;simp[Act.eval] at k1' k9'
       repeat' (rcases au with _ | ⟨_,au⟩)
       all_goals first
        | (exfalso;simp at aI;done)
        | (cases ho
           try simp[Act.eval,Region.binds,fH,gF] at ao
           refine cC (by simp[Region.wanted]) ?_;simp[Oper.quietAt,Oper.quietUpon,execOp,go_sem,fH,k1',k9',c5,c6,c7,c8,k0,k1,mL,mM,ao])
      ·intro f listed a' hH hr hv;have av9:=hv 9;simp[Act.eval,fH,gF,mL,mM] at av9;simp only[wpOp];simp[Region.wanted];refine .inl ?_;simp[Oper.wp,execOp,go_sem,av9];refine nU hH hr HM.out FT (by kernel_rfl) λeO=>?_
       ·rw[eO];exact⟨qg,Ag,ng,mg,wj.heap.size,rfl,rfl,kD.out⟩
   ·intro f listed a' hH hr hv;simp only[wpOp];simp[Region.wanted];refine .inl ?_;simp[Oper.wp,execOp,go_sem];obtain⟨wd,bp⟩:=aaX (w20.alloc (.cells #[.int .i64 0,.string ⟨#[]⟩,.int .i64 0,.slice none 0 0] 33));rw[<-bp];have ez:Below w20.heap.size w20 wd:=by rw[bp];exact aG _ _
    have jR:Hid (wd.heap[w20.heap.size]?=some (.cells [Value.int .i64 0,.string ⟨#[]⟩,.int .i64 0,.slice none 0 0].toArray 33 (0,0))):=jq (by rw[bp];exact heap_alloc_new _ _);have kG:Hid (w20.heap.size<wd.heap.size):=jq (by rw[bp];simp);replace c5:=(ez.cell (p:=⟨L,5,none⟩) (gM.out)).trans c5;replace c6:=(ez.cell (p:=⟨L,6,none⟩) (gM.out)).trans c6;replace c7:=(ez.cell (p:=⟨L,7,none⟩) (gM.out)).trans c7;replace c8:=(ez.cell (p:=⟨L,8,none⟩) (gM.out)).trans c8;replace k0:=(ez.cell (p:=⟨b9,0,none⟩) (oR.out)).trans k0;replace k1:=(ez.cell (p:=⟨b9,1,none⟩) (oR.out)).trans k1;have aJ:=jq ez;clear bp ez;refine cM 6 (D:=[0,1,2,3,4,5,10]) (val:=fH L d0 g0 d1 g1 d2 g2 d3 g3 b9 undef (.pointer (some ⟨w20.heap.size,0,none⟩)) undef) tx tz (hH.next tx tz hr) (by kernel_rfl) ?_ ?_
    ·intro i au aI o ho a' hb ao;have k1':=adJ hb kB.out;have k9':=adJ hb vT.out;simp[Act.eval] at k1' k9'
     repeat' (rcases au with _ | ⟨_,au⟩)
     all_goals first
      | (exfalso;simp at aI;done)
      | (cases ho
         try simp[Act.eval,Region.binds,fH,gF] at ao
         refine cC (by simp[Region.wanted]) ?_;simp[Oper.quietAt,Oper.quietUpon,execOp,go_sem,fH,k1',k9',c5,c6,c7,c8,k0,k1,mL,mM,ao])
    ·intro f listed a' hH hr hv;have av0:=hv 0;have av4:=hv 4;have av5:=hv 5;simp[Act.eval,fH,gF,mL,mM] at av0 av4 av5;simp only[wpOp];simp[Region.wanted];refine .inl ?_;simp[Oper.wp,go_sem,av0,av4,av5];have bw:=LE (.slice (some ⟨L,0,none⟩) 4 4) [Np.ex0,Np.ex1,Np.ex2,Np.ex3] (jq (Np.t7 (by kernel_rfl))) ⟨#[120]⟩ ⟨#[99,46,121,46,120]⟩ Np.ex1.set rfl (by decide) (.slice (some ⟨d1,0,none⟩) 1 1) 1 50 5 (by decide) wd ((IM.out.keep aJ.out).more aJ.out.size) (Ot.out.later ax aK aJ.out) Np.Fg (Nv.out.later bM bY aJ.out) (jq ⟨by kernel_rfl,by kernel_rfl,rfl,by kernel_rfl,by kernel_rfl⟩);rw[show Np.mX [Np.ex0,Np.ex1,Np.ex2,Np.ex3] Np.ex1.set (⟨#[99,46,121,46,120]⟩:ByteArray).data.toList 1 50 5=(⟨0,([],0),[]⟩,1) from Np.Qy] at bw;refine bw.mono ?_;clear bw;rintro e wj ⟨qg,Ag,ng,mg,rfl,_,_,_,aU⟩;replace c5:=(aU.cell (p:=⟨L,5,none⟩) (by have h1:=gM.out;have h2:=aJ.out.size;dsimp only;omega)).trans c5;replace c6:=(aU.cell (p:=⟨L,6,none⟩) (by have h1:=gM.out;have h2:=aJ.out.size;dsimp only;omega)).trans c6;replace c7:=(aU.cell (p:=⟨L,7,none⟩) (by have h1:=gM.out;have h2:=aJ.out.size;dsimp only;omega)).trans c7;replace c8:=(aU.cell (p:=⟨L,8,none⟩) (by have h1:=gM.out;have h2:=aJ.out.size;dsimp only;omega)).trans c8;replace k0:=(aU.cell (p:=⟨b9,0,none⟩) (by have h1:=oR.out;have h2:=aJ.out.size;dsimp only;omega)).trans k0;replace k1:=(aU.cell (p:=⟨b9,1,none⟩) (by have h1:=oR.out;have h2:=aJ.out.size;dsimp only;omega)).trans k1;have eL:=jq (aJ.out.trans (aU.mono aJ.out.size));have NJ:=jq aU;clear aU;dsimp only;refine cM 11 (D:=[0,1,2,3,4,5,7,8,9,6,10]) (val:=fH L d0 g0 d1 g1 d2 g2 d3 g3 b9 (.tuple #[.agg #[.int .i64 0,.string qg,.int .i64 0,.slice Ag ng mg],.int .i64 1]) (.pointer (some ⟨w20.heap.size,0,none⟩)) undef) tx tz (hH.next tx tz hr) (by kernel_rfl) ?_ ?_
     ·intro i au aI o ho a' hb ao;have k1':=adJ hb kB.out;have k9':=adJ hb vT.out;simp[Act.eval] at k1' k9'
      repeat' (rcases au with _ | ⟨_,au⟩)
      all_goals first
       | (exfalso;simp at aI;done)
       | (cases ho
          try simp[Act.eval,Region.binds,fH,gF] at ao
          refine cC (by simp[Region.wanted]) ?_;simp[Oper.quietAt,Oper.quietUpon,execOp,go_sem,fH,k1',k9',c5,c6,c7,c8,k0,k1,mL,mM,ao])
     ·intro f listed a' hH hr hv;have av8:=hv 8;have av10:=hv 10;simp[Act.eval,fH,gF,mL,mM] at av8 av10;simp only[wpOp];simp[Region.wanted];refine .inl ?_;have aY:=((NJ.out.block w20.heap.size kG.out).trans jR.out);have y0:=af _ aY 0 _ rfl;have f0:wj.frozen? ⟨w20.heap.size,0,none⟩=false:=by simp[World.frozen?,aY]
      have y1:=af _ aY 1 _ rfl;have f1:wj.frozen? ⟨w20.heap.size,1,none⟩=false:=by simp[World.frozen?,aY]
      have y2:=af _ aY 2 _ rfl;have f2:wj.frozen? ⟨w20.heap.size,2,none⟩=false:=by simp[World.frozen?,aY]
      have y3:=af _ aY 3 _ rfl;have f3:wj.frozen? ⟨w20.heap.size,3,none⟩=false:=by simp[World.frozen?,aY]
      simp[Oper.wp,execOp,go_sem,av8,av10,y0,y1,y2,y3,f0,f1,f2,f3];have hE:w20.heap.size<=w20.heap.size:=by first | exact bQ _ | exact eL.out.size
      have nA:=Cb (eL.out) hE (.int .i64 0) (.string qg) (.int .i64 0) (.slice Ag ng mg);obtain⟨ws,Ds⟩:=aaX ((((wj.setCell ⟨w20.heap.size,0,none⟩ (.int .i64 0)).setCell ⟨w20.heap.size,1,none⟩ (.string qg)).setCell ⟨w20.heap.size,2,none⟩ (.int .i64 0)).setCell ⟨w20.heap.size,3,none⟩ (.slice Ag ng mg));rw[<-Ds] at nA |-;have kD:=jq nA;clear Ds nA aY y0 y1 y2 y3 f0 f1 f2 f3 c5 c6 c7 c8 k0 k1;have c5:=(kD.out.cell (p:=⟨L,5,none⟩) gM.out).trans (af _ mD.out.l 5 _ rfl);have c6:=(kD.out.cell (p:=⟨L,6,none⟩) gM.out).trans (af _ mD.out.l 6 _ rfl);have c7:=(kD.out.cell (p:=⟨L,7,none⟩) gM.out).trans (af _ mD.out.l 7 _ rfl);have c8:=(kD.out.cell (p:=⟨L,8,none⟩) gM.out).trans (af _ mD.out.l 8 _ rfl);have k0:=(kD.out.cell (p:=⟨b9,0,none⟩) oR.out).trans (af _ y8.out 0 _ rfl);have k1:=(kD.out.cell (p:=⟨b9,1,none⟩) oR.out).trans (af _ y8.out 1 _ rfl);refine cM 12 (D:=[0,1,2,3,4,5,7,8,9,6,10,11]) (val:=fH L d0 g0 d1 g1 d2 g2 d3 g3 b9 (.tuple #[.agg #[.int .i64 0,.string qg,.int .i64 0,.slice Ag ng mg],.int .i64 1]) (.pointer (some ⟨w20.heap.size,0,none⟩)) (.bool false)) FT RR (hH.skip hr (hv:=BJ.out.symm)) (by kernel_rfl) ?_ ?_
      ·intro i au aI o ho a' hb ao;have k1':=adJ hb kB.out;have k9':=adJ hb vT.out;simp[Act.eval] at k1' k9'
       repeat' (rcases au with _ | ⟨_,au⟩)
       all_goals first
        | (exfalso;simp at aI;done)
        | (cases ho
           try simp[Act.eval,Region.binds,fH,gF] at ao
           refine cC (by simp[Region.wanted]) ?_;simp[Oper.quietAt,Oper.quietUpon,execOp,go_sem,fH,k1',k9',c5,c6,c7,c8,k0,k1,mL,mM,ao])
      ·intro f listed a' hH hr hv;have av9:=hv 9;simp[Act.eval,fH,gF,mL,mM] at av9;simp only[wpOp];simp[Region.wanted];refine .inl ?_;simp[Oper.wp,execOp,go_sem,av9];refine nU hH hr HM.out FT (by kernel_rfl) λeO=>?_
       ·rw[eO];exact⟨qg,Ag,ng,mg,w20.heap.size,rfl,rfl,kD.out⟩
 rintro ex a' w21 ⟨qg,Ag,ng,mg,E,rfl,rfl,j9⟩;clear c5 c6 c7 c8 k0 k1 Do;rw[jt.out];simp[kq,Act.put,fH,gF,mL,mM];have Yv:=jq ((IM.out.keep j9).more j9.size);have M4:=jq (M3.out.trans (j9.mono M3.out.size));have OD:=jq (mD.out.keep j9);have ER:=jq ((j9.block b2 (eQ.1 OO.out).1).trans OO.out);have Ox:=jq (Zg.out.later j9);have OZ:=jq ((j9.block b3 (eQ.1 OY.out).1).trans OY.out);have Zs:=jq (Zr.out.later j9);have Pa:=jq ((j9.block b4 (eQ.1 O9.out).1).trans O9.out);have ZF:=jq (ZE.out.later j9);have Pm:=jq ((j9.block b5 (eQ.1 Pk.out).1).trans Pk.out);have ZR:=jq (ZQ.out.later j9);have Px:=jq ((j9.block b7 (eQ.1 Pw.out).1).trans Pw.out);have Z3:=jq (Z2.out.later j9);have YG:=jq (YF.out.keep j9);have W8:=jq (W7.out.later ax aK j9);have MT:=jq ((j9.block b8 (eQ.1 MS.out).1).trans MS.out);obtain rfl:nf2=0:=(bAX Xg.out).symm;clear j9;have mw:Hid (∀ g:ci w21,Calls prog 16 #[.slice A2 n2 m2,.slice (some ⟨L,15,none⟩) 1 1] g.w λe w'=>e = .returned (.bool true)/\Below g.w.heap.size g.w w'):=jq (λg=>by
  obtain⟨q',A',n',c',h1,_,_,h4⟩:=Ox.out.later g.below;simp only[List.cons.injEq,Value.slice.injEq,and_true] at h1;obtain⟨_,_,_,rfl,rfl,rfl⟩:=h1;exact GU _ _ [Np.ex3] g.w h4 (by have h:=(OD.out.keep g.below).last;rwa [Np.Ff] at h))
 have y0:=af _ ER.out 0 _ rfl;have y3:=af _ ER.out 3 _ rfl;have lb2:b2<w21.heap.size:=World.block_lt_of_cell? _ _ y0;have y0':∀ g:ci w21,g.w.cell? ⟨b2,0,none⟩=_:=λg=>(g.cell ⟨b2,0,none⟩ lb2).trans y0;have y3':∀ g:ci w21,g.w.cell? ⟨b2,3,none⟩=_:=λg=>(g.cell ⟨b2,3,none⟩ lb2).trans y3;clear y0 y3;have er:∀ w,(Instr.slice 22 (.slice (some ⟨L,0,none⟩) 4 4) (some (.int .i64 3)) none none).run prog w = .ok (.slice (some ⟨L,15,none⟩) 1 1) w:=λw=>by kernel_rfl
 go_wp2_with fail;refine adK ?_
 repeat (go_big_quiet_step (fail))
 go_big_quiet_step ((go_at_call 16;exact Calls.grow_of (mw.out _)))
 repeat (go_big_quiet_step (fail))
 refine wpQuiet_nil ?_;rintro _ ⟨gg,rfl⟩;obtain⟨w22,Lp⟩:=aaK gg.w;have ka:Below w21.heap.size w21 w22:=by rw[<-Lp];exact gg.below
 rw[Lp];have Yw:=jq ((Yv.out.keep ka).more ka.size);have M5:=jq (M4.out.trans (ka.mono M4.out.size));have acQ:=jq (OD.out.keep ka);have bUQ:=jq ((ka.block b2 (eQ.1 ER.out).1).trans ER.out);have bTQ:=jq (Ox.out.later ka);have ES:=jq ((ka.block b3 (eQ.1 OZ.out).1).trans OZ.out);have Zt:=jq (Zs.out.later ka);have Pb:=jq ((ka.block b4 (eQ.1 Pa.out).1).trans Pa.out);have ZG:=jq (ZF.out.later ka);have Pn:=jq ((ka.block b5 (eQ.1 Pm.out).1).trans Pm.out);have ZS:=jq (ZR.out.later ka);have Py:=jq ((ka.block b7 (eQ.1 Px.out).1).trans Px.out);have Z4:=jq (Z3.out.later ka);have YH:=jq (YG.out.keep ka);have W9:=jq (W8.out.later ax aK ka);have MU:=jq ((ka.block b8 (eQ.1 MT.out).1).trans MT.out);clear ka Lp y0' y3' er lb2;have y0:=af _ ES.out 0 _ rfl;have y1:=af _ ES.out 1 _ rfl;have y2:=af _ ES.out 2 _ rfl;have y3:=af _ ES.out 3 _ rfl;go_wp2_with fail;clear y0 y1 y2 y3;refine (GV ⟨3,([120],7),[]⟩ [.int .i64 3,.string q3,.int .i64 7,.slice A3 n3 m3] [.int .i64 3,.string ⟨#[120]⟩,.int .i64 7,.slice none 0 0] w22 Zt.out ⟨⟨#[120]⟩,none,0,0,rfl,rfl,by decide,jO _ _⟩).mono ?_;rintro e w23 ⟨rfl,hb⟩;have Yx:=jq ((Yw.out.keep hb).more hb.size);have Hh:=jq (M5.out.trans (hb.mono M5.out.size));have acZ:=jq (acQ.out.keep hb);have ET:=jq ((hb.block b4 (eQ.1 Pb.out).1).trans Pb.out);have ZH:=jq (ZG.out.later hb);have Po:=jq ((hb.block b5 (eQ.1 Pn.out).1).trans Pn.out);have ZT:=jq (ZS.out.later hb);have Pz:=jq ((hb.block b7 (eQ.1 Py.out).1).trans Py.out);have Z5:=jq (Z4.out.later hb);have YI:=jq (YH.out.keep hb);have Xa:=jq (W9.out.later ax aK hb);have MV:=jq ((hb.block b8 (eQ.1 MU.out).1).trans MU.out);clear hb;have y0:=af _ ET.out 0 _ rfl;have y1:=af _ ET.out 1 _ rfl;have y2:=af _ ET.out 2 _ rfl;have y3:=af _ ET.out 3 _ rfl;go_wp2_with fail;clear y0 y1 y2 y3;refine (GV ⟨3,([119,46,120],1),[]⟩ [.int .i64 3,.string q4,.int .i64 1,.slice A4 n4 m4] [.int .i64 3,.string ⟨#[119,46,120]⟩,.int .i64 1,.slice none 0 0] w23 ZH.out ⟨⟨#[119,46,120]⟩,none,0,0,rfl,rfl,by decide,jO _ _⟩).mono ?_;rintro e w24 ⟨rfl,hb⟩;have Yy:=jq ((Yx.out.keep hb).more hb.size);have M6:=jq (Hh.out.trans (hb.mono Hh.out.size));have acJ:=jq (acZ.out.keep hb);have EU:=jq ((hb.block b5 (eQ.1 Po.out).1).trans Po.out);have ZU:=jq (ZT.out.later hb);have PA:=jq ((hb.block b7 (eQ.1 Pz.out).1).trans Pz.out);have Z6:=jq (Z5.out.later hb);have YJ:=jq (YI.out.keep hb);have Xb:=jq (Xa.out.later ax aK hb);have MW:=jq ((hb.block b8 (eQ.1 MV.out).1).trans MV.out);clear hb;have y0:=af _ EU.out 0 _ rfl;have y1:=af _ EU.out 1 _ rfl;have y2:=af _ EU.out 2 _ rfl;have y3:=af _ EU.out 3 _ rfl;go_wp2_with fail;clear y0 y1 y2 y3;refine (GV ⟨2,([],0),[]⟩ [.int .i64 2,.string q5,.int .i64 0,.slice A5 n5 m5] [.int .i64 2,.string ⟨#[]⟩,.int .i64 0,.slice none 0 0] w24 ZU.out ⟨⟨#[]⟩,none,0,0,rfl,rfl,by decide,jO _ _⟩).mono ?_;rintro e w25 ⟨rfl,hb⟩;have Yz:=jq ((Yy.out.keep hb).more hb.size);have M7:=jq (M6.out.trans (hb.mono M6.out.size));have acK:=jq (acJ.out.keep hb);have EV:=jq ((hb.block b7 (eQ.1 PA.out).1).trans PA.out);have Z7:=jq (Z6.out.later hb);have YK:=jq (YJ.out.keep hb);have Xc:=jq (Xb.out.later ax aK hb);have MX:=jq ((hb.block b8 (eQ.1 MW.out).1).trans MW.out);clear hb;have y0:=af _ EV.out 0 _ rfl;have y1:=af _ EV.out 1 _ rfl;have y2:=af _ EV.out 2 _ rfl;have y3:=af _ EV.out 3 _ rfl;go_wp2_with fail;clear y0 y1 y2 y3;refine (GV ⟨2,([],0),[]⟩ [.int .i64 2,.string q7,.int .i64 0,.slice A7 n7 m7] [.int .i64 2,.string ⟨#[]⟩,.int .i64 0,.slice none 0 0] w25 Z7.out ⟨⟨#[]⟩,none,0,0,rfl,rfl,by decide,jO _ _⟩).mono ?_;rintro e w26 ⟨rfl,hb⟩;have bSX:=jq ((Yz.out.keep hb).more hb.size);have M8:=jq (M7.out.trans (hb.mono M7.out.size));have bTJ:=jq (acK.out.keep hb);have YL:=jq (YK.out.keep hb);have Xd:=jq (Xc.out.later ax aK hb);have VZ:=jq ((hb.block b8 (eQ.1 MX.out).1).trans MX.out);clear hb;have a1:=af _ VZ.out 1 _ rfl;go_wp2_with fail;clear a1;refine (GU _ _ [Np.rfS,Np.rfA] w26 Xd.out YL.out.two).mono ?_;rintro e w27 ⟨rfl,hb⟩;have Wc:=jq (M8.out.trans (hb.mono M8.out.size));clear hb;go_wp2_with fail;go_ret;exact⟨rfl,Wc.out⟩
end
section
open Go.RowKit
theorem bpZ(n:ByteArray)(hn:n.size<=140737488355328)(ty:Int)(w:World) :
 Calls prog 24 #[.agg #[.string n,.int .i64 ty]] w λe w'=>e = .returned (.bool (Np.ai n.data.toList&&(decide (1<=ty)&&decide (ty<=8))))/\Below w.heap.size w w':=by
 obtain⟨X,hX⟩:=aaK w.heap.size;obtain⟨w1,ah⟩:=aaK (w.alloc (.cells #[.string n,.int .i64 ty] 27));have hb:Below w.heap.size w w1:=by rw[<-ah];exact blAl
 have bG:w1.heap.size=X+1:=by rw[<-ah,<-hX];simp
 have ay:=jq hb;have k0:w1.cell? ⟨X,0,none⟩=some (.string n):=by rw[<-ah,<-hX];simp[go_sem]
 have k1:w1.cell? ⟨X,1,none⟩=some (.int .i64 ty):=by rw[<-ah,<-hX];simp[go_sem]
 clear hb;go_enter func24,ntmps24;go_wp2_with fail
 try clear ah
 refine (vH n hn w1).mono ?_;rintro e w2 ⟨rfl,hb⟩;replace k1:=aaQ hb k1;have am:=aaZ ay hb;clear hb k0;obtain⟨r,hr⟩:=aaK (Np.ai n.data.toList);have HR:=jq hr;rw[hr];clear hr
 cases r with
 | false=>
  go_wp2_with fail;exact bodyPost_ret (v:=.bool false) (by simp[results,results24,go_sem]) rfl ⟨by rw[HR.out];rfl,am.out⟩
 | true=>
  by_cases h1:1<=ty
  ·have tj:decide (1<=ty)=true:=uQ h1;go_wp2_with fail;exact bodyPost_ret (v:=.bool (decide (ty<=8))) (by simp[results,results24,go_sem]) rfl ⟨by rw[HR.out,tj];rfl,am.out⟩
  ·have tj:decide (1<=ty)=false:=tQ h1;go_wp2_with fail;exact bodyPost_ret (v:=.bool false) (by simp[results,results24,go_sem]) rfl ⟨by rw[HR.out,tj];rfl,am.out⟩
end
end Go.Proofs.YtadhigmjilijcaaGreatDoor
