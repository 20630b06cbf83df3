/- Parts of the proof. No condition. -/
import Derived.Laws.EntriesVeiled
import Derived.IntWalk
import Derived.Maps.Own
import Derived.WideMake
import Derived.Laws.StructEq
import Derived.Test.YtfnopgdcaanaiaaGreatDoorK02
import Derived.Test.YtfnopgdcaanaiaaGreatDoorK03
import Derived.Test.YtfnopgdcaanaiaaGreatDoorK04
import Derived.Test.YtfnopgdcaanaiaaGreatDoorK05
set_option linter.all false
set_option maxRecDepth 100000
set_option maxHeartbeats 8000000
namespace Go.Proofs.YtfnopgdcaanaiaaGreatDoor
open Go.Proofs.Tryz
namespace Np
structure Zone where
 apex:List UInt8
 sets:List Signed
deriving DecidableEq
def mG:List (List UInt8)->List (List UInt8)->Int
 | [],_=>-1
 | _::_,[]=>1
 | x::xs,y::ys=>if cm x y≠0 then cm x y else mG xs ys
def aI(a b:List UInt8):Int:=if a=b then 0 else mG (back a) (back b)
def gC(a b:DSet):Int:=if a.name≠b.name then aI a.name b.name else cr a.type b.type
def bq(s z:List UInt8):Bool:=s == z||z == [46]||(decide (z.length<s.length)&&(s.drop (s.length - z.length) == z)&&(s[s.length - z.length - 1]? == some 46))
def jm(apex:List UInt8):Option DSet->List Signed->Bool
 | _,[]=>true
 | p,x::r=>(aG x.set.name&&bq x.set.name apex)&&dj x.set&&(match p with | none=>true | some q=>decide (gC q x.set<0))&&jm apex (some x.set) r
def eF(z:Zone):Bool:=aG z.apex&&!eh z.apex&&jm z.apex none z.sets
theorem Nh:∀ (xs:List (List UInt8)) (n:Nat) (w:Bool),fh xs n w=true->∀ x∈xs,x = [42]\/cg x=true:=by
 intro xs
 induction xs with
 | nil=>intro _ _ _ x h;cases h
 | cons y xs ih=>
  intro n w h x hx;rw[fh] at h;split at h
  ·cases h
  ·split at h
   ·rename_i hy;rcases List.mem_cons.1 hx with rfl | hx
    ·exact .inl hy
    ·exact ih _ _ h x hx
   ·split at h
    ·rename_i hy;rcases List.mem_cons.1 hx with rfl | hx
     ·exact .inr hy
     ·exact ih _ _ h x hx
    ·cases h
theorem Hz{r:Rule} : ∀ {ds:List Datum} {p:Option Datum},iR r p ds=true->∀ d∈ds,jG r d=true
 | [],_,_,d,h=>by cases h
 | e::ds,p,h,d,hd=>by
   simp only[iR,Bool.and_eq_true] at h;rcases List.mem_cons.1 hd with rfl | hd
   ·exact h.1.1
   ·exact Hz h.2 d hd
theorem sr{s:DSet}(h:dj s=true):aG s.name=true/\1<=s.type/\s.type<=8/\0<=s.life/\s.life<=100000/\1<=s.data.length/\s.data.length<=8/\iR (bT s.type) none s.data=true:=by
 unfold dj at h;simp only[Bool.and_eq_true,Qa] at h;obtain⟨⟨⟨⟨⟨⟨h1,h2,h3⟩,h4,h5⟩,h6,h7⟩,_⟩,_⟩,h8⟩:=h;exact⟨h1,h2,h3,h4,h5,h6,h7,h8⟩
theorem DN{apex:List UInt8} : ∀ {l:List Signed} {p:Option DSet},jm apex p l=true->∀ x∈l,dj x.set=true
 | [],_,_,x,h=>by cases h
 | y::l,p,h,x,hx=>by
   simp only[jm,Bool.and_eq_true] at h;rcases List.mem_cons.1 hx with rfl | hx
   ·exact h.1.1.2
   ·exact DN h.2 x hx
end Np
namespace D
open Go.RowKit Go.Shelf
attribute [local go_sem] Oper.semAt_some
def rg(W:World)(lm lr:Nat)(rem:List (List UInt8)):Prop:=
 ∃ (more:Bool) (r:ByteArray),Boxed W lm 4 (.bool more)/\Boxed W lr 9 (.string r)/\r.size<=140737488355328/\rem=if more then (Np.aW r.data.toList).reverse else []
theorem rg.it{B:Nat}{S:Nat->Prop}{W W':World}{lm lr:Nat}{rem:List (List UInt8)}(h:rg W lm lr rem)(hs:ItStep B S W W')(h1:S lm)(h2:S lr):rg W' lm lr rem:=by
 obtain⟨more,r,b1,b2,h3,h4⟩:=h;exact⟨more,r,jU b1 hs h1,jU b2 hs h2,h3,h4⟩
def He(W:World)(lm lr:Nat)(rem:List (List UInt8))(e:Ending)(W':World):Prop:=
 (rem = []/\e = .returned (.tuple #[.string ⟨#[]⟩,.bool false])/\W'=W)\/
 ∃ x rest,rem=x::rest/\e = .returned (.tuple #[aD x,.bool true])/\rg W' lm lr rest/\∃ b u,(b=lm\/b=lr)/\W'=W.setCell ⟨b,0,none⟩ u
theorem aeJ(lm lr:Nat)(hne:lm≠lr)(rem:List (List UInt8))(w:World)(h:rg w lm lr rem) :
 Calls prog 297 #[.pointer (some ⟨lm,0,none⟩),.pointer (some ⟨lr,0,none⟩)] w (He w lm lr rem):=by
 obtain⟨more,r,b1,b2,h3,h4⟩:=h;have HR:=jq h4;clear h4;have c1:=b1.cell;have c2:=b2.cell;have f1:=b1.frozen;have f2:=b2.frozen
 cases more with
 | false=>
  go_enter func297,ntmps297;go_wp2_with fail;refine bodyPost_ret (v:=.tuple #[.string ⟨#[]⟩,.bool false]) (by simp[results,results297,go_sem]) rfl ?_;exact .inl ⟨HR.out,rfl,rfl⟩
 | true=>
  go_enter func297,ntmps297;go_wp2_with fail;refine (JF _ h3 _ (by decide) (by decide) _).mono ?_;rintro e w' ⟨q,hq,rfl,rfl⟩;rcases hq with ⟨rfl,gl⟩ | ⟨a,b,gD,tG,rfl⟩
  ·have bl:Np.aW r.data.toList = [r.data.toList]:=Np.za gl;have HS:=jq bl;clear bl gl;go_wp2_with fail;refine bodyPost_ret (v:=.tuple #[.string r,.bool true]) (by simp[results,results297,go_sem]) rfl ?_;refine .inr ⟨r.data.toList,[],by rw[HR.out,Qb trivial,HS.out];rfl,rfl,⟨false,r,b1.set _,eM b2 (by simpa using hne.symm) _,h3,rfl⟩,lm,_,.inl rfl,rfl⟩
  ·have jA:a.length+1+b.length=r.size:=by rw[<-aZ,gD];simp;omega
   have bl:Np.aW r.data.toList=Np.aW a ++ [b]:=by rw[gD];exact (Np.CA a b).trans (by rw[Np.za tG])
   have ng:(r.extract (a.length+1) r.size).data.toList=b:=by rw[DH,gD];simp
   have qi:(r.extract 0 a.length).data.toList=a:=by rw[DI,gD];simp
   have Um:Hid (r.extract (a.length+1) r.size=⟨b.toArray⟩):=jq (lH (by rw[ng]));have LW:=jq qi;have HS:=jq bl;clear bl ng qi gD tG;have kD:a.length<=140737488355328:=by omega
   have NC:a.length+1<=r.size:=by omega
   have aRX:(a.length:Int)+1<=(r.size:Int):=by omega
   clear jA;go_wp2_with fail;refine bodyPost_ret (v:=.tuple #[.string (r.extract (a.length+1) r.size),.bool true]) (by simp[results,results297,go_sem]) rfl ?_;refine .inr ⟨b,(Np.aW a).reverse,by rw[HR.out,Qb trivial,HS.out];simp,by rw[Um.out],⟨true,r.extract 0 a.length,eM b1 (by simpa using hne) _,b2.set _,by rw[<-aZ,LW.out];omega,by rw[LW.out];rfl⟩,lr,_,.inr rfl,rfl⟩
theorem amQ(t:ByteArray)(ht:t.size<=140737488355328)(w:World) :
 Calls prog 214 #[.string t] w λe w'=>e = .returned (.func (.func 297) #[] #[.pointer (some ⟨w.heap.size+1,0,none⟩),.pointer (some ⟨w.heap.size,0,none⟩)])/\
  rg w' (w.heap.size+1) w.heap.size (Np.back t.data.toList)/\Below w.heap.size w w'/\w'.heap.size=w.heap.size+2:=by
 have b0:=Boxed.new w 9 (.string t);have hb:∀ o o',Below w.heap.size w ((w.alloc o).alloc o'):=λo o'=>((vQ _ w).alloc (bQ _) _).alloc (by simp) _;by_cases he:t.data.toList = [46]
 ·have kG:(t.toList == [46])=true:=by rw[dQ,he];rfl
  have b1:=Boxed.new (w.alloc (.cells #[.string t] 9)) 4 (.bool false);rw[World.size_alloc] at b1;have HB:Hid (Np.back t.data.toList = []):=jq (by simp[Np.back,he]);clear he;go_enter func214,ntmps214;go_wp2_with fail;go_ret;exact⟨rfl,⟨false,t,b1,b0.alloc _,ht,by rw[HB.out];rfl⟩,hb _ _,by simp⟩
 ·have kG:(t.toList == [46])=false:=by rw[dQ];simpa using he
  have b1:=Boxed.new (w.alloc (.cells #[.string t] 9)) 4 (.bool true);rw[World.size_alloc] at b1;have HB:Hid (Np.back t.data.toList=(Np.aW t.data.toList).reverse):=jq (by simp[Np.back,he]);clear he;go_enter func214,ntmps214;go_wp2_with fail;go_ret;exact⟨rfl,⟨true,t,b1,b0.alloc _,ht,by rw[HB.out];rfl⟩,hb _ _,by simp⟩
theorem Vt:∀ a b:List UInt8,Lib.compareBytes a b=Np.cm a b:=by
 intro a
 induction a with
 | nil=>
  intro b
  cases b with
  | nil=>rfl
  | cons y b=>simp[Lib.compareBytes,Np.cm,Op.bytesLess]
 | cons x a ih=>
  intro b
  cases b with
  | nil=>simp[Lib.compareBytes,Np.cm,Op.bytesLess]
  | cons y b=>
   rw[Lib.compareBytes,ih b];by_cases h1:x<y
   ·simp[Np.cm,Op.bytesLess,h1]
   ·by_cases h2:y<x
    ·have h3:¬ x=y:=λe=>by subst e;exact h1 h2
     simp[Np.cm,Op.bytesLess,h1,h2,h3]
    ·have h3:x=y:=by
      apply UInt8.toNat_inj.1;simp only[UInt8.lt_iff_toNat_lt] at h1 h2;omega
     subst h3;simp[Np.cm,Op.bytesLess,h1]
theorem aBJ(s t:ByteArray)(w:World) :
 Calls prog 216 #[.string s,.string t] w λe w'=>e = .returned (.int .i64 (Np.cm s.data.toList t.data.toList))/\w=w':=
 (Tryz.strings_Compare s t w).mono λe w' ⟨he,hw⟩=>⟨by rw[he,Vt],hw.symm⟩
def Fx(g lm lr l8:Nat)(S:Nat->Prop):Prop:=∀ k,S k↔k=g\/k=g+1\/k=lm\/k=lr\/k=l8
def Fw(w:World)(g lm lr l8:Nat)(fv:Value)(m n:List UInt8)(pre:List (List UInt8))(S:Nat->Prop)(W:World):Prop:=
 Fx g lm lr l8 S/\Boxed W g 3 (.int .i64 0)/\Boxed W (g+1) 37 (.int .i64 0)/\Boxed W l8 273 fv/\
 (∃ rem,rg W lm lr rem/\∀ rest,Np.back m=pre++rest->Np.mG (Np.back m) (Np.back n)=Np.mG rest rem)/\Below w.heap.size w W
def Fy(w:World)(g lm lr l8:Nat)(m n:List UInt8)(c:Code)(_:List (List UInt8))(S:Nat->Prop)(W:World):Prop:=
 c = .ret/\Fx g lm lr l8 S/\Boxed W g 3 (.int .i64 (Np.mG (Np.back m) (Np.back n)))/\Boxed W (g+1) 37 (.int .i64 0)/\Below w.heap.size w W
theorem MB(w:World)(g lm lr l8:Nat)(fv:Value)(m n:List UInt8)(B:Nat)(hB:w.heap.size<=B):fq B (Fw w g lm lr l8 fv m n):=by
 rintro s S W W' ⟨hS,h1,h2,h3,⟨rem,h4,h5⟩,h6⟩ av;exact⟨hS,jU h1 av ((hS _).2 (.inl rfl)),jU h2 av ((hS _).2 (.inr (.inl rfl))),jU h3 av ((hS _).2 (.inr (.inr (.inr (.inr rfl))))),
  ⟨rem,h4.it av ((hS _).2 (.inr (.inr (.inl rfl)))) ((hS _).2 (.inr (.inr (.inr (.inl rfl))))),h5⟩,uY h6 av hB (bQ _)⟩
theorem Vu(w:World)(g lm lr l8:Nat)(m n:List UInt8)(B:Nat)(hB:w.heap.size<=B)(c:Code):fq B (Fy w g lm lr l8 m n c):=by
 rintro s S W W' ⟨hc,hS,h1,h2,h6⟩ av;exact⟨hc,hS,jU h1 av ((hS _).2 (.inl rfl)),jU h2 av ((hS _).2 (.inr (.inl rfl))),uY h6 av hB (bQ _)⟩
theorem He.rd{W W':World}{lm lr:Nat}{rem:List (List UInt8)}{e:Ending}(h:He W lm lr rem e W'):(rem = []/\e = .returned (.tuple #[.string ⟨#[]⟩,.bool false])/\W'=W)\/
 ∃ x rest,rem=x::rest/\e = .returned (.tuple #[aD x,.bool true])/\rg W' lm lr rest/\(∀ S:Nat->Prop,S lm->S lr->RdStep S W W')/\(∀ b t v,b≠lm->b≠lr->Boxed W b t v->Boxed W' b t v)/\(∀ (n:Nat) (w:World),n<=lm->n<=lr->Below n w W->Below n w W'):=by
 rcases h with h | ⟨x,rest,h1,h2,h3,b,u,hb,rfl⟩
 ·exact .inl h
 ·refine .inr ⟨x,rest,h1,h2,h3,λS s1 s2=>?_,λb' t v n1 n2 hv=>eM hv (by rcases hb with rfl | rfl <;> assumption) _,λn w n1 n2 hB=>hB.setCell (p:=⟨b,0,none⟩) (by rcases hb with rfl | rfl <;> assumption) _⟩;exact RdStep.setCell (RdStep.refl S W) (.inl (by rcases hb with rfl | rfl <;> assumption)) _
theorem MF{w:World}{lm lr l8:Nat}{fv:Value}{m n:List UInt8}{pre:List (List UInt8)}{S:Nat->Prop}{W W3:World}{a:Act}{v0 v1:Value}{q:Int}(hS:Fx w.heap.size lm lr l8 S)
 (hr:RdStep S W W3) (aa:∀ k,S k->k<W.heap.size) (c0:Boxed W3 w.heap.size 3 v0) (c1:Boxed W3 (w.heap.size+1) 37 v1) (hB:Below w.heap.size w W3) (hv:Np.mG (Np.back m) (Np.back n)=q) :
 mF (Fw w w.heap.size lm lr l8 fv m n) (Fy w w.heap.size lm lr l8 m n) pre S W .ret a ((W3.setCell ⟨w.heap.size,0,none⟩ (.int .i64 q)).setCell ⟨w.heap.size+1,0,none⟩ (.int .i64 0)):=
 ⟨S,(hr.setCell (.inl ((hS _).2 (.inl rfl))) _).setCell (.inl ((hS _).2 (.inr (.inl rfl)))) _,λ_ e=>.inl e,λk e=>by have:=aa k e;have:=hr.size;simp[World.setCell];omega,rfl,hS,
  by rw[hv];exact eM (c0.set _) (by simp) _,(eM c1 (by simp) _).set _,(hB.setCell (bQ _) _).setCell (by simp) _⟩
def cmpVal(a b:List UInt8):Value:=if Np.aG a&&Np.aG b then .tuple #[.int .i64 (Np.aI a b),.int .i64 0] else .tuple #[.int .i64 0,.int .i64 11]
theorem compare_any(a b:ByteArray)(ha:a.size<=140737488355328)(hb:b.size<=140737488355328)(w:World) :
 Calls prog 137 #[.string a,.string b] w λe w'=>e = .returned (cmpVal a.data.toList b.data.toList)/\Below w.heap.size w w':=by
 refine (callsIn_wide (n:=0)).1 ?_;refine callsIn_of_wp_marks func137 rfl trivial ?_ rfl;simp only[ntmps137,List.size_toArray,List.length_cons,List.length_nil,Nat.reduceAdd,Nat.reduceSub,Array.replicate_succ,Array.replicate_zero,List.push_toArray,List.append_toArray,List.nil_append,List.cons_append];have b0:=Boxed.new w 3 (.int .i64 0);have b1:=Boxed.new (w.alloc (.cells #[.int .i64 0] 3)) 37 (.int .i64 0);rw[World.size_alloc] at b1;replace b0:=b0.alloc (.cells #[.int .i64 0] 37);have cS:Below w.heap.size w ((w.alloc (.cells #[.int .i64 0] 3)).alloc (.cells #[.int .i64 0] 37)):=((vQ _ w).alloc (bQ _) _).alloc (by simp) _;gi_wp2_with fail;refine⟨trivial,rfl,?_⟩;refine (callsIn_wide.2 (valid_any a ha _)).mono ?_;rintro e w1 ⟨rfl,aw⟩;replace b0:=cR b0 aw (by simp;omega);replace b1:=cR b1 aw (by simp);replace cS:=cS.trans (aw.mono (by simp;omega));clear aw;have ro:∀ (W:World) (tmps:Array Value),Boxed W w.heap.size 3 (.int .i64 0)->Boxed W (w.heap.size+1) 37 (.int .i64 11)->Below w.heap.size w W->(Np.aG a.data.toList&&Np.aG b.data.toList)=false->
  tmps[4]?=some (.pointer (some ⟨w.heap.size,0,none⟩))->tmps[5]?=some (.pointer (some ⟨w.heap.size+1,0,none⟩))->
  bodyPostM Fence.wide 0 prog Tryz.f137 (λe w'=>e = .returned (cmpVal a.data.toList b.data.toList)/\Below w.heap.size w w') .ret { tmps:=tmps,defers:=[] } W:=λW tmps c0 c1 hB hv t4 t5=>by
  have d0:=c0.cell;have d1:=c1.cell;exact ll (v:=.tuple #[.int .i64 0,.int .i64 11]) (by simp[results,results137,go_sem,d0,d1,t4,t5]) ⟨by rw[cmpVal,hv];rfl,hB⟩
 have lI:=jq ro;clear ro;have c0:=b0.cell;have c1:=b1.cell;have f0:=b0.frozen;have f1:=b1.frozen
 cases va:Np.aG a.data.toList with
 | false=>
  gi_wp2_with fail;refine⟨trivial,?_⟩;gi_wp2_with fail;refine lI.out _ _ (eM (b0.set _) (by simp) _) ((eM b1 (by simp) _).set _) ((cS.setCell (bQ _) _).setCell (by simp) _) (by rw[va];rfl) rfl rfl
 | true=>
  have VA:=jq va;clear va c0 c1 f0 f1;gi_wp2_with fail;refine⟨trivial,rfl,?_⟩;refine (callsIn_wide.2 (valid_any b hb _)).mono ?_;rintro e w2 ⟨rfl,ac⟩;have bl:w.heap.size+1<w1.heap.size:=b1.lt;replace b0:=cR b0 ac (by omega);replace b1:=cR b1 ac bl;replace cS:=cS.trans (ac.mono (by omega));have gG:=ac.size;clear ac;have c0:=b0.cell;have c1:=b1.cell;have f0:=b0.frozen;have f1:=b1.frozen
  cases vb:Np.aG b.data.toList with
  | false=>
   gi_wp2_with fail;refine lI.out _ _ (eM (b0.set _) (by simp) _) ((eM b1 (by simp) _).set _) ((cS.setCell (bQ _) _).setCell (by simp) _) (by rw[vb,Bool.and_false]) rfl rfl
  | true=>
   have VV:Hid ((Np.aG a.data.toList&&Np.aG b.data.toList)=true):=jq (by rw[VA.out,vb];rfl);clear vb VA lI;by_cases gD:a.data.toList=b.data.toList
   ·have WT:(a.toList == b.toList)=true:=by rw[dQ,dQ,gD];simp
    gi_wp2_with fail;have d0:=(eM (b0.set (.int .i64 0)) (p:=⟨w.heap.size+1,0,none⟩) (by simp) (.int .i64 0)).cell;have d1:=((eM b1 (p:=⟨w.heap.size,0,none⟩) (by simp) (.int .i64 0)).set (.int .i64 0)).cell;exact ll (v:=.tuple #[.int .i64 0,.int .i64 0]) (by simp[results,results137,go_sem,d0,d1]) ⟨by rw[cmpVal,VV.out,gD];simp[Np.aI],(cS.setCell (bQ _) _).setCell (by simp) _⟩
   ·have WT:(a.toList == b.toList)=false:=by rw[dQ,dQ];simpa using gD
    have HV:Hid (cmpVal a.data.toList b.data.toList = .tuple #[.int .i64 (Np.mG (Np.back a.data.toList) (Np.back b.data.toList)),.int .i64 0]):=jq (by rw[cmpVal,VV.out];simp[Np.aI,gD]);clear gD;gi_wp2_with fail;refine⟨trivial,rfl,?_⟩;refine (callsIn_wide.2 (amQ b hb _)).mono ?_;rintro e w3 ⟨rfl,yA,am,cY⟩;have zS:=jq cY;clear cY;replace b0:=cR b0 am (by omega);replace b1:=cR b1 am (by omega);replace cS:=cS.trans (am.mono (by omega));clear am;have hl:=cS.size;have b8:=Boxed.new w3 273 (.func (.func 297) #[] #[.pointer (some ⟨w2.heap.size+1,0,none⟩),.pointer (some ⟨w2.heap.size,0,none⟩)]);replace b0:=b0.alloc (.cells #[.func (.func 297) #[] #[.pointer (some ⟨w2.heap.size+1,0,none⟩),.pointer (some ⟨w2.heap.size,0,none⟩)]] 273);replace b1:=b1.alloc (.cells #[.func (.func 297) #[] #[.pointer (some ⟨w2.heap.size+1,0,none⟩),.pointer (some ⟨w2.heap.size,0,none⟩)]] 273);replace yA:rg (w3.alloc (.cells #[.func (.func 297) #[] #[.pointer (some ⟨w2.heap.size+1,0,none⟩),.pointer (some ⟨w2.heap.size,0,none⟩)]] 273)) (w2.heap.size+1) w2.heap.size (Np.back b.data.toList):=yA.it (B:=w3.heap.size) (S:=λ_=>True) (tW _) trivial trivial;replace cS:=cS.alloc cS.size (.cells #[.func (.func 297) #[] #[.pointer (some ⟨w2.heap.size+1,0,none⟩),.pointer (some ⟨w2.heap.size,0,none⟩)]] 273);clear c0 c1 f0 f1;have n8:=Boxed.new w3 273 .nilFunc;have n8c:=n8.cell;have n8f:=n8.frozen;gi_wp2_with fail;clear n8 n8c n8f;have hEG:=enters_of func297 (by kernel_rfl) rfl;have IX:w.heap.size+1<w2.heap.size:=by omega
    have cG:w3.heap.size=w2.heap.size+2:=zS.out;refine Fo (n₀:=w.heap.size) (w0:=w) (first:=#[.string a]) (captured:=#[]) (gf:=215) rfl (enters_of func215 (by kernel_rfl) rfl) (mk:=λy=>#[.string a,y]) (λ_=>rfl)
     (Dz a ha _ w) cS cS.size (λ_=>rfl) (Fw w w.heap.size (w2.heap.size+1) w2.heap.size w3.heap.size (.func (.func 297) #[] #[.pointer (some ⟨w2.heap.size+1,0,none⟩),.pointer (some ⟨w2.heap.size,0,none⟩)]) a.data.toList b.data.toList)
     (Fy w w.heap.size (w2.heap.size+1) w2.heap.size w3.heap.size a.data.toList b.data.toList)
     (MB _ _ _ _ _ _ _ _ _ cS.size) (λc=>Vu _ _ _ _ _ _ _ _ cS.size c)
     (λk=>k=w.heap.size\/k=w.heap.size+1\/k=w2.heap.size+1\/k=w2.heap.size\/k=w3.heap.size) (by intro k h;omega) (by intro k h;simp;omega)
     ⟨λ_=>Iff.rfl,b0,b1,b8,⟨_,yA,λrest h=>by rw[h];rfl⟩,cS⟩ ?round ?done ?stop
    case round=>
     rintro l0 pre x S W bw hI eu;clear cG;gi_wp2;refine⟨S,RdStep.refl _ _,λk e=>.inl e,eu,?_⟩;intro l W₂ av;obtain⟨hS,c0,c1,c8,⟨rem,hp,BY⟩,hB⟩:=MB w w.heap.size _ _ _ _ _ _ _ cS.size pre S W W₂ hI av;have c8c:=c8.cell;have lX:∀ k,S k->k<W₂.heap.size:=λk e=>lQ (eu k e) av.size;have hx:x∈Np.back a.data.toList:=bw.subset (by simp);have tV:x.length<=140737488355328:=by have:=Np.Dy hx;rw[aZ] at this;omega
     obtain⟨rest,rN⟩:=bw;have jr:=BY (x::rest) (by rw[<-rN];simp);have HR:=jq rN;have HG:=jq jr;clear rN jr BY hx hI av b0 b1 b8 yA;gi_wp2_with fail;refine⟨trivial,rfl,?_⟩;refine (CallsIn.inRound l (callsIn_wide.2 (aeJ (w2.heap.size+1) w2.heap.size (by omega) rem _ hp))).mono ?_;intro e W3 hP;rcases hP.rd with ⟨mY,rfl,rfl⟩ | ⟨y,rem',mY,rfl,hp',aJ,eR,bC⟩
     ·have c0c:=c0.cell;have c1c:=c1.cell;have c0f:=c0.frozen;have c1f:=c1.frozen;have GS:=jq mY;clear mY hP;gi_wp2_with fail;exact MF hS (RdStep.refl S _) lX c0 c1 hB (by rw[HG.out,GS.out];rfl)
     ·have GS:=jq mY;replace c0:=eR _ _ _ (by omega) (by omega) c0;replace c1:=eR _ _ _ (by omega) (by omega) c1;replace c8:=eR _ _ _ (by have:=zS.out;omega) (by have:=zS.out;omega) c8;have Jc:=aJ S ((hS _).2 (.inr (.inr (.inl rfl)))) ((hS _).2 (.inr (.inr (.inr (.inl rfl)))));have hB':=bC w.heap.size w (by omega) (by omega) hB;have c0c:=c0.cell;have c1c:=c1.cell;have c0f:=c0.frozen;have c1f:=c1.frozen;clear mY hP aJ eR bC c8c hp hB;have jr:Np.mG (Np.back a.data.toList) (Np.back b.data.toList)=if Np.cm x y≠0 then Np.cm x y else Np.mG rest rem':=by rw[HG.out,GS.out];rfl
      have KY:=jq jr;clear jr HG;have cL:=aBJ ⟨x.toArray⟩ ⟨y.toArray⟩ W3;by_cases hc:Np.cm x y=0
      ·have ew:(Np.cm x y != 0)=false:=by simp[hc]
       have HC:=jq hc;clear hc;gi_wp2_with (refine⟨trivial,rfl,?_⟩;gi_at_call 216;refine (CallsIn.inRound l (callsIn_wide.2 cL)).mono ?_;rintro e w' ⟨rfl,rfl⟩);refine⟨S,Jc,λ_ e=>.inl e,λk e=>by have:=lX k e;have:=Jc.size;omega,hS,c0,c1,c8,⟨rem',hp',λr hr=>?_⟩,hB'⟩
       have:r=rest:=List.append_cancel_left (hr.symm.trans HR.out.symm)
       rw[KY.out,Qc (λh=>h HC.out),this]
      ·have ew:(Np.cm x y != 0)=true:=by simpa using hc
       have HC:=jq hc;clear hc;gi_wp2_with (refine⟨trivial,rfl,?_⟩;gi_at_call 216;refine (CallsIn.inRound l (callsIn_wide.2 cL)).mono ?_;rintro e w' ⟨rfl,rfl⟩);exact MF hS Jc lX c0 c1 hB' (by rw[KY.out,Qb HC.out])
    case done=>
     rintro D S W hD fu bd ⟨hS,c0,c1,c8,⟨rem,hp,BY⟩,hB⟩ hK;clear cG b0 b1 b8 yA;have c0c:=c0.cell;have c1c:=c1.cell;have c0f:=c0.frozen;have c1f:=c1.frozen;have vH:Np.mG (Np.back a.data.toList) (Np.back b.data.toList) = -1:=by rw[BY [] (by simp)];rfl
     have HE:=jq vH;have DR:w.heap.size≠D:=λe=>fu ((hS _).2 (.inl e.symm));have DS:w.heap.size+1≠D:=λe=>fu ((hS _).2 (.inr (.inl e.symm)));have Ib:w.heap.size<=D:=by have:=cS.size;omega
     clear vH BY hp c8;gi_wp2;have hK':((W.setCell ⟨w.heap.size,0,none⟩ (.int .i64 (-1))).setCell ⟨w.heap.size+1,0,none⟩ (.int .i64 0)).heap[D]?=some (.deferred (some [])):=
      (wQ _ _ _ _ (by simpa using DS.symm)).trans ((wQ _ _ _ _ (by simpa using DR.symm)).trans hK)
     have d0:=(uZ (eM (c0.set (.int .i64 (-1))) (p:=⟨w.heap.size+1,0,none⟩) (by simp) (.int .i64 0)) DR (.deferred none)).cell;have d1:=(uZ ((eM c1 (p:=⟨w.heap.size,0,none⟩) (by simp) (.int .i64 (-1))).set (.int .i64 0)) DS (.deferred none)).cell;exact nN hK' (v:=.tuple #[.int .i64 (-1),.int .i64 0]) (by simp[results,results137,go_sem,d0,d1]) ⟨by rw[HV.out,HE.out],nL ((hB.setCell (bQ _) _).setCell (by simp) _) Ib _⟩
    case stop=>
     rintro D c pre S W hD fu bd fI ⟨rfl,hS,c0,c1,hB⟩ hK;clear cG b0 b1 b8 yA;have DR:w.heap.size≠D:=λe=>fu ((hS _).2 (.inl e.symm));have DS:w.heap.size+1≠D:=λe=>fu ((hS _).2 (.inr (.inl e.symm)));have Ib:w.heap.size<=D:=by have:=cS.size;omega
     gi_wp2;have d0:=(uZ c0 DR (.deferred none)).cell;have d1:=(uZ c1 DS (.deferred none)).cell;exact nN hK (v:=.tuple #[.int .i64 (Np.mG (Np.back a.data.toList) (Np.back b.data.toList)),.int .i64 0]) (by simp[results,results137,go_sem,d0,d1]) ⟨by rw[HV.out],nL hB Ib _⟩
end D
section
open Go.RowKit
def cmpVal(a b:List UInt8):Value:=if Np.aG a&&Np.aG b then .tuple #[.int .i64 (Np.aI a b),.int .i64 0] else .tuple #[.int .i64 0,.int .i64 11]
theorem compare_any(a b:ByteArray)(ha:a.size<=140737488355328)(hb:b.size<=140737488355328)(w:World) :
 Calls prog 137 #[.string a,.string b] w λe w'=>e = .returned (cmpVal a.data.toList b.data.toList)/\Below w.heap.size w w':=
 (D.compare_any a b ha hb w).mono λ_ _ h=>⟨h.1,h.2.low⟩
end
namespace Np
inductive Res (α:Type) where
 | ok (a:α) (r:List Tok)
 | err (e:Int) (r:List Tok)
deriving DecidableEq
structure Diag where
 err:Int
 pos:Int
deriving DecidableEq
def okR:List (List UInt8)->Bool
 | []=>true
 | [x]=>cg x||x == [42]
 | x::y::r=>cg x&&okR (y::r)
theorem aAY:cg [42]=false:=by decide
theorem Wr(xs:List (List UInt8))(n:Nat):fh xs n true=xs.isEmpty:=by cases xs <;> simp[fh]
theorem Wq:∀ (xs:List (List UInt8)) (n:Nat),n<=8->fh xs n false=(decide (n+xs.length<=8)&&okR xs):=by
 intro xs
 induction xs with
 | nil=>intro n hn;simp[fh,okR,hn]
 | cons x xs ih=>
  intro n hn;rw[fh];by_cases h8:8<n+1
  ·rw[Qb (by simp;omega),tQ (by simp;omega)];rfl
  ·rw[Qc (by simp;omega)];by_cases hx:x = [42]
   ·subst hx;rw[Qb rfl,Wr]
    cases xs with
    | nil=>simp[okR];omega
    | cons y r=>simp[okR,aAY]
   ·rw[Qc hx];by_cases hl:cg x=true
    ·rw[Qb hl,ih (n+1) (by omega)]
     cases xs with
     | nil=>simp[okR,hl]
     | cons y r=>simp only[okR,hl,Bool.true_and,List.length_cons];congr 1;congr 1;apply propext;omega
    ·rw[Qc hl]
     cases xs with
     | nil=>simp[okR,hl,hx]
     | cons y r=>simp[okR,hl]
def tX:List (List UInt8)->Bool
 | []=>true
 | h::t=>(cg h||h == [42])&&t.all cg
theorem agK:∀ (a:List (List UInt8)) (h:List UInt8),okR (a ++ [h])=(a.all cg&&(cg h||h == [42])):=by
 intro a h
 induction a with
 | nil=>simp[okR]
 | cons x a ih=>
  cases a with
  | nil=>simp[okR]
  | cons y r=>
   simp only[List.cons_append,okR] at ih |-;rw[ih];simp[Bool.and_assoc]
theorem agJ(l:List (List UInt8)):okR l.reverse=tX l:=by
 cases l with
 | nil=>rfl
 | cons h t=>rw[List.reverse_cons,agK,tX,List.all_reverse,Bool.and_comm]
theorem RE(s:List UInt8):aG s=if s = [46] then true else if 60<s.length then false else tX (aW s)&&decide ((aW s).length<=8):=by
 unfold aG;split
 ·rfl
 ·split
  ·rfl
  ·rw[Wq _ 0 (by omega),agJ,List.length_reverse,Bool.and_comm];simp
def jD:List (List UInt8)->List UInt8
 | []=>[]
 | [x]=>x
 | x::y::r=>x++46::jD (y::r)
theorem ZQ(c:UInt8)(x:List UInt8)(xs:List (List UInt8)):jD ((c::x)::xs)=c::jD (x::xs):=by
 cases xs <;> simp[jD]
theorem yM(s:List UInt8):jD (aW s)=s:=by
 induction s with
 | nil=>rfl
 | cons c r ih=>
  rw[aW];have hne:=qs r
  cases hr:aW r with
  | nil=>exact absurd hr hne
  | cons x xs=>
   rw[hr] at ih;split
   ·rename_i hc;subst hc;rw[jD,ih];rfl
   ·rw[ZQ,ih]
theorem ZP:∀ (l m:List (List UInt8)),l≠[]->m≠[]->jD (l++m)=jD l++46::jD m:=by
 intro l
 induction l with
 | nil=>intro m h;exact absurd rfl h
 | cons x l ih=>
  intro m _ hm
  cases l with
  | nil=>
   cases m with
   | nil=>exact absurd rfl hm
   | cons y m=>simp[jD]
  | cons y l=>
   have:=ih m (by simp) hm
   simp only[List.cons_append,jD] at this |-;rw[this];simp
def ek(s:List UInt8):List (List UInt8):=if s = [46] then [] else aW s
theorem Cr(s:List UInt8):(ek s).reverse=back s:=by
 unfold ek back;split <;> rfl
theorem Ax{a b:List UInt8}(h:back a=back b):a=b:=by
 unfold back at h;by_cases ha:a = [46]
 ·by_cases hb:b = [46]
  ·rw[ha,hb]
  ·rw[Qb ha,Qc hb] at h
   have:=qs b
   exact absurd (List.reverse_eq_nil_iff.1 h.symm) this
 ·by_cases hb:b = [46]
  ·rw[Qb hb,Qc ha] at h;exact absurd (List.reverse_eq_nil_iff.1 h) (qs a)
  ·rw[Qc ha,Qc hb] at h
   have:=List.reverse_inj.1 h
   rw[<-yM a,this,yM]
def inL(l m:List (List UInt8)):Bool:=decide (m.length<=l.length)&&(l.drop (l.length - m.length) == m)
theorem Pp{l m:List (List UInt8)} : inL l m=true↔∃ p,l=p++m:=by
 unfold inL;simp only[Bool.and_eq_true,Qa,beq_iff_eq];constructor
 ·rintro⟨h1,h2⟩;refine⟨l.take (l.length - m.length),?_⟩;rw[<-h2,List.length_drop]
  conv => lhs;rw[<-List.take_append_drop (l.length - m.length) l]
  congr 2;omega
 ·rintro⟨p,rfl⟩;refine⟨by simp,?_⟩;rw[List.length_append,Nat.add_sub_cancel,List.drop_left]
theorem Cm{s z:List UInt8}(hz:z≠[]):inL (ek s) (ek z)=bq s z:=by
 rw[Bool.eq_iff_iff,Pp];unfold bq ek;simp only[Bool.or_eq_true,Bool.and_eq_true,beq_iff_eq,Qa];by_cases h1:z = [46]
 ·rw[Qb h1];exact⟨λ_=>.inl (.inr h1),λ_=>⟨_,(List.append_nil _).symm⟩⟩
 ·rw[Qc h1];by_cases h2:s = [46]
  ·rw[Qb h2];constructor
   ·rintro⟨p,hp⟩
    have:=List.append_eq_nil_iff.1 hp.symm
    exact absurd this.2 (qs z)
   ·rintro ((h | h) | ⟨⟨h3,_⟩,_⟩)
    ·exact absurd (h ▸ h2) h1
    ·exact absurd h h1
    ·subst h2;have h4:z.length<1:=h3;exact absurd (rQ (by omega)) hz
  ·rw[Qc h2];constructor
   ·rintro⟨p,hp⟩;by_cases h0:p = []
    ·subst h0;rw[List.nil_append] at hp;left;left;rw[<-yM s,hp,yM]
    ·right;have hs:s=jD p++46::z:=by
      rw[<-yM s,hp,ZP _ _ h0 (qs z),yM]
     subst hs;refine⟨⟨by simp;omega,?_⟩,?_⟩
     ·rw[show (jD p++46::z).length - z.length=(jD p ++ [46]).length by simp;omega,show jD p++46::z=(jD p ++ [46])++z by simp,List.drop_left]
     ·rw[show (jD p++46::z).length - z.length - 1=(jD p).length by simp;omega];rw[oQ (bQ _)];simp
   ·rintro ((h | h) | ⟨⟨h3,h4⟩,h5⟩)
    ·exact⟨[],by rw[h];rfl⟩
    ·exact absurd h h1
    ·have hs:s=s.take (s.length - z.length - 1)++46::z:=by
      conv => lhs;rw[<-List.take_append_drop (s.length - z.length - 1) s]
      congr 1;obtain⟨hl,he⟩:=cQ.1 h5;rw[sQ hl,he,show s.length - z.length - 1+1=s.length - z.length by omega,h4]
     refine⟨aW (s.take (s.length - z.length - 1)),?_⟩
     conv => lhs;rw[hs]
     rw[CA]
def cn:List (List UInt8)->List (List UInt8)->Int
 | [],[]=>0
 | [],_::_=>-1
 | _::_,[]=>1
 | x::xs,y::ys=>if cm x y≠0 then cm x y else cn xs ys
theorem u7(x:List UInt8):cm x x=0:=by
 have:∀ x:List UInt8,Go.Op.bytesLess x x=false:=by
  intro x
  induction x with
  | nil=>rfl
  | cons a x ih=>simp[Go.Op.bytesLess,ih]
 simp[cm,this]
theorem rk{x y:List UInt8}(h:cm x y=0):x=y:=by
 unfold cm at h;split at h
 ·omega
 ·split at h
  ·assumption
  ·omega
theorem P9(l:List (List UInt8)):cn l l=0:=by
 induction l with
 | nil=>rfl
 | cons x l ih=>rw[cn,u7,Qc (by simp),ih]
theorem ahQ:∀ (l m:List (List UInt8)),l≠m->cn l m=mG l m:=by
 intro l
 induction l with
 | nil=>
  intro m h
  cases m with
  | nil=>exact absurd rfl h
  | cons y m=>rfl
 | cons x l ih=>
  intro m h
  cases m with
  | nil=>rfl
  | cons y m=>
   rw[cn,mG];by_cases hc:cm x y≠0
   ·rw[Qb hc,Qb hc]
   ·rw[Qc hc,Qc hc]
    have:=rk (Decidable.not_not.1 hc)
    subst this;exact ih m (λe=>h (by rw[e]))
theorem AE(a b:List UInt8):aI a b=cn (back a) (back b):=by
 unfold aI;split
 ·rename_i h;rw[h,P9]
 ·rename_i h;exact (ahQ _ _ (λe=>h (Ax e))).symm
theorem AF(a:List UInt8):aI a a=0:=by simp[aI]
theorem DB{a b:List UInt8}(h:aI a b=0):a=b:=by
 rw[AE] at h;refine Ax ?_
 have:∀ l m:List (List UInt8),cn l m=0->l=m:=by
  intro l
  induction l with
  | nil=>intro m h;cases m with
    | nil=>rfl
    | cons y m=>simp[cn] at h
  | cons x l ih=>
   intro m h
   cases m with
   | nil=>simp[cn] at h
   | cons y m=>
    rw[cn] at h;split at h
    ·rename_i hc;exact absurd h hc
    ·rename_i hc;rw[rk (Decidable.not_not.1 hc),ih m h]
 exact this _ _ h
theorem DC(a b:DSet):gC a b=if aI a.name b.name≠0 then aI a.name b.name else cr a.type b.type:=by
 unfold gC;by_cases h:a.name=b.name
 ·rw[Qc (by simp[h]),h,AF,Qc (by simp)]
 ·rw[Qb h,Qb (λe=>h (DB e))]
theorem U5:∀ (x y:List UInt8),Go.Op.bytesLess x y=false->x≠y->Go.Op.bytesLess y x=true:=by
 intro x
 induction x with
 | nil=>intro y h hn;cases y with
   | nil=>exact absurd rfl hn
   | cons b y=>simp[Go.Op.bytesLess] at h
 | cons a x ih=>
  intro y h hn
  cases y with
  | nil=>simp[Go.Op.bytesLess]
  | cons b y=>
   simp only[Go.Op.bytesLess] at h |-;by_cases h1:a<b
   ·simp[h1] at h
   ·by_cases h2:b<a
    ·simp[h2]
    ·have h3:a=b:=by
      apply UInt8.toNat_inj.1;simp only[UInt8.lt_iff_toNat_lt] at h1 h2;omega
     subst h3;simp[h1] at h |-;exact ih y h (λe=>hn (by rw[e]))
theorem xZ(x y:List UInt8):(Go.Op.bytesLess x y=true/\cm x y = -1)\/(Go.Op.bytesLess x y=false/\Go.Op.bytesLess y x=true/\x≠y/\cm x y=1)\/(Go.Op.bytesLess x y=false/\Go.Op.bytesLess y x=false/\x=y/\cm x y=0):=by
 cases h:Go.Op.bytesLess x y with
 | true=>exact .inl ⟨rfl,by simp[cm,h]⟩
 | false=>
  by_cases hn:x=y
  ·subst hn;exact .inr (.inr ⟨rfl,h,rfl,u7 x⟩)
  ·exact .inr (.inl ⟨rfl,U5 x y h hn,hn,by simp[cm,h,hn]⟩)
def JG(a b:Datum):Bool:=if a.text≠b.text then Go.Op.bytesLess a.text b.text else if a.n≠b.n then decide (a.n<b.n) else decide (a.m<b.m)
theorem aaY(a b:Datum):JG a b=decide (pM a b<0):=by
 unfold JG pM;rcases xZ a.text b.text with ⟨h1,h2⟩ | ⟨h1,_,h3,h2⟩ | ⟨_,_,h3,h2⟩
 ·have hn:a.text≠b.text:=λe=>by rw[e,u7] at h2;omega
  rw[Qb hn,Qb (by omega),h1,h2];rfl
 ·rw[Qb h3,Qb (by omega),h1,h2];rfl
 ·rw[Qc (show ¬ a.text≠b.text from λe=>e h3),Qc (show ¬ cm a.text b.text≠0 from λe=>e h2)];by_cases h4:a.n=b.n
  ·rw[Qc (show ¬ a.n≠b.n from λe=>e h4)];have h5:cr a.n b.n=0:=by unfold cr;rw[Qc (by omega),Qc (by omega)]
   rw[Qc (show ¬ cr a.n b.n≠0 from λe=>e h5)];unfold cr;by_cases h6:a.m<b.m
   ·rw[Qb h6];simp[h6]
   ·by_cases h7:b.m<a.m
    ·rw[Qc h6,Qb h7];simp;omega
    ·rw[Qc h6,Qc h7];simp;omega
  ·rw[Qb (show a.n≠b.n from h4)];by_cases h6:a.n<b.n
   ·have h5:cr a.n b.n = -1:=by unfold cr;rw[Qb h6]
    rw[h5];simp[h6]
   ·have h5:cr a.n b.n=1:=by unfold cr;rw[Qc h6,Qb (by omega)]
    rw[h5];simp;omega
structure TO{α:Type}(c:α->α->Int):Prop where
 self:∀ x,c x x=0
 zero:∀ x y,c x y=0->x=y
 anti:∀ x y,c x y<0->0<c y x
 anti':∀ x y,0<c x y->c y x<0
 trans:∀ x y z,c x y<0->c y z<0->c x z<0
theorem TO.lex{α β γ:Type}{c:α->α->Int}{d:β->β->Int}(hc:TO c)(hd:TO d)(f:γ->α)(g:γ->β)(XL:∀ x y,f x=f y->g x=g y->x=y):TO (λx y:γ=>if c (f x) (f y)≠0 then c (f x) (f y) else d (g x) (g y)) where
 self x:=by simp[hc.self,hd.self]
 zero x y h:=by
  by_cases h1:c (f x) (f y)≠0
  ·rw[Qb h1] at h;exact absurd h h1
  ·rw[Qc h1] at h;exact XL x y (hc.zero _ _ (Decidable.not_not.1 h1)) (hd.zero _ _ h)
 anti x y h:=by
  by_cases h1:c (f x) (f y)≠0
  ·rw[Qb h1] at h
   have:=hc.anti _ _ h
   rw[Qb (by omega)];exact this
  ·rw[Qc h1] at h;have e:=hc.zero _ _ (Decidable.not_not.1 h1);rw[e,hc.self,Qc (by simp)];exact hd.anti _ _ h
 anti' x y h:=by
  by_cases h1:c (f x) (f y)≠0
  ·rw[Qb h1] at h
   have:=hc.anti' _ _ h
   rw[Qb (by omega)];exact this
  ·rw[Qc h1] at h;have e:=hc.zero _ _ (Decidable.not_not.1 h1);rw[e,hc.self,Qc (by simp)];exact hd.anti' _ _ h
 trans x y z h k:=by
  by_cases h1:c (f x) (f y)≠0
  ·rw[Qb h1] at h;by_cases h2:c (f y) (f z)≠0
   ·rw[Qb h2] at k
    have:=hc.trans _ _ _ h k
    rw[Qb (by omega)];exact this
   ·have e:=hc.zero _ _ (Decidable.not_not.1 h2);rw[<-e,Qb h1];exact h
  ·rw[Qc h1] at h;have e:=hc.zero _ _ (Decidable.not_not.1 h1);by_cases h2:c (f y) (f z)≠0
   ·rw[Qb h2] at k;rw[e,Qb h2];exact k
   ·rw[Qc h2] at k;rw[e,Qc h2];exact hd.trans _ _ _ h k
theorem TO.of{α β:Type}{c:α->α->Int}(hc:TO c)(f:β->α)(hf:∀ x y,f x=f y->x=y):TO (λx y=>c (f x) (f y)) where
 self _:=hc.self _
 zero _ _ h:=hf _ _ (hc.zero _ _ h)
 anti _ _ h:=hc.anti _ _ h
 anti' _ _ h:=hc.anti' _ _ h
 trans _ _ _ h k:=hc.trans _ _ _ h k
theorem EL:∀ (x y:List UInt8),Go.Op.bytesLess x y=decide (x<y)
 | [],[]=>by simp[Go.Op.bytesLess]
 | _::_,[]=>by simp[Go.Op.bytesLess]
 | [],_::_=>by simp[Go.Op.bytesLess]
 | a::x,b::y=>by
   rw[Go.Op.bytesLess,EL x y];simp only[List.cons_lt_cons_iff];by_cases h1:a<b <;> by_cases h2:a=b <;> by_cases h3:x<y <;> simp[h1,h2,h3]
theorem toS:TO cm where
 self:=u7
 zero _ _:=rk
 anti x y h:=by
  rcases xZ x y with ⟨h1,h2⟩ | ⟨_,_,_,h2⟩ | ⟨_,_,_,h2⟩
  ·rcases xZ y x with ⟨h3,h4⟩ | ⟨_,_,_,h4⟩ | ⟨_,_,h5,h4⟩
   ·rw[EL,Qa] at h1 h3;exact absurd h3 (List.lt_asymm h1)
   ·omega
   ·rw[h5,u7] at h;omega
  ·omega
  ·omega
 anti' x y h:=by
  rcases xZ x y with ⟨_,h2⟩ | ⟨_,h1,_,h2⟩ | ⟨_,_,_,h2⟩
  ·omega
  ·simp[cm,h1]
  ·omega
 trans x y z h k:=by
  have e:∀ a b:List UInt8,cm a b<0->a<b:=λa b h=>by
   rcases xZ a b with ⟨h1,h2⟩ | ⟨_,_,_,h2⟩ | ⟨_,_,_,h2⟩
   ·rw[EL,Qa] at h1;exact h1
   ·omega
   ·omega
  have:=List.lt_trans (e _ _ h) (e _ _ k)
  unfold cm;rw[EL,Qb (by simpa using this)];omega
theorem toI:TO cr where
 self x:=by unfold cr;rw[Qc (by omega),Qc (by omega)]
 zero x y h:=by unfold cr at h;split at h;omega;split at h <;> omega
 anti x y h:=by
  unfold cr at h |-;split at h
  ·rw[Qc (by omega),Qb (by omega)];omega
  ·split at h <;> omega
 anti' x y h:=by
  unfold cr at h |-;split at h
  ·omega
  ·split at h
   ·rw[Qb (by omega)];omega
   ·omega
 trans x y z h k:=by
  unfold cr at h k |-;split at h
  ·split at k
   ·rw[Qb (by omega)];omega
   ·split at k <;> omega
  ·split at h <;> omega
theorem toR:TO cn:=by
 have hs:=toS;refine⟨P9,?_,?_,?_,?_⟩
 ·intro l
  induction l with
  | nil=>intro m h;cases m with
    | nil=>rfl
    | cons y m=>simp[cn] at h
  | cons x l ih=>
   intro m h
   cases m with
   | nil=>simp[cn] at h
   | cons y m=>
    rw[cn] at h;split at h
    ·rename_i hc;exact absurd h hc
    ·rename_i hc;rw[rk (Decidable.not_not.1 hc),ih m h]
 ·intro l
  induction l with
  | nil=>intro m h;cases m with
    | nil=>simp[cn] at h
    | cons y m=>simp[cn]
  | cons x l ih=>
   intro m h
   cases m with
   | nil=>simp[cn] at h
   | cons y m=>
    rw[cn] at h |-;split at h
    ·have:=hs.anti _ _ h
     rw[Qb (by omega)];exact this
    ·rename_i hc;have e:=rk (Decidable.not_not.1 hc);subst e;rw[Qc hc];exact ih m h
 ·intro l
  induction l with
  | nil=>intro m h;cases m with
    | nil=>simp[cn] at h
    | cons y m=>simp[cn] at h
  | cons x l ih=>
   intro m h
   cases m with
   | nil=>simp[cn]
   | cons y m=>
    rw[cn] at h |-;split at h
    ·have:=hs.anti' _ _ h
     rw[Qb (by omega)];exact this
    ·rename_i hc;have e:=rk (Decidable.not_not.1 hc);subst e;rw[Qc hc];exact ih m h
 ·intro l
  induction l with
  | nil=>intro m n h k;cases m with
    | nil=>simp[cn] at h
    | cons y m=>cases n with
      | nil=>simp[cn] at k
      | cons z n=>simp[cn]
  | cons x l ih=>
   intro m n h k
   cases m with
   | nil=>simp[cn] at h
   | cons y m=>
    cases n with
    | nil=>simp[cn] at k
    | cons z n=>
     rw[cn] at h k |-;by_cases hc:cm x y≠0
     ·rw[Qb hc] at h;by_cases hd:cm y z≠0
      ·rw[Qb hd] at k
       have:=hs.trans _ _ _ h k
       rw[Qb (by omega)];exact this
      ·have e:=rk (Decidable.not_not.1 hd);rw[<-e,Qb hc];exact h
     ·rw[Qc hc] at h;have e:=rk (Decidable.not_not.1 hc);by_cases hd:cm y z≠0
      ·rw[Qb hd] at k;rw[e,Qb hd];exact k
      ·rw[Qc hd] at k;rw[e,Qc hd];exact ih m n h k
theorem eW:TO aI:=by
 have:=toR.of back (λ_ _ h=>Ax h)
 have e:aI=λx y=>cn (back x) (back y):=by funext x y;exact AE x y
 rw[e];exact this
def eO(a b:List UInt8×Int):Int:=if aI a.1 b.1≠0 then aI a.1 b.1 else cr a.2 b.2
theorem ze:TO eO:=eW.lex toI (λd:List UInt8×Int=>d.1) (λd=>d.2) (λ_ _ h k=>Prod.ext h k)
def ei(s:DSet):List UInt8×Int:=(s.name,s.type)
theorem Ho(a b:DSet):gC a b=eO (ei a) (ei b):=DC a b
theorem aaX{α:Type}{c:α->α->Int}(h:TO c)(x y z:α):(!decide (c y x<0))=true->(!decide (c z y<0))=true->(!decide (c z x<0))=true:=by
 simp only[Bool.not_eq_true',decide_eq_false_iff_not,Int.not_lt];intro h1 h2;apply Decidable.byContradiction;intro h3;have h4:c z x<0:=by omega
 rcases Int.lt_or_eq_of_le h1 with h5 | h5
 ·have:=h.trans _ _ _ h4 (h.anti' _ _ h5);omega
 ·have:=h.zero _ _ h5.symm;subst this;omega
theorem aaK{α:Type}{c:α->α->Int}(h:TO c)(x y:α):((!decide (c y x<0))||(!decide (c x y<0)))=true:=by
 by_cases h1:c y x<0
 ·have:=h.anti _ _ h1
  have:¬ c x y<0:=by omega
  simp[this]
 ·simp[h1]
theorem ou{s z:List UInt8}(hz:z≠[]):bq s z=true↔back z <+: back s:=by
 rw[<-Cm hz,Pp,<-Cr,<-Cr];constructor
 ·rintro⟨p,h⟩;exact⟨p.reverse,by rw[h,List.reverse_append]⟩
 ·rintro⟨p,h⟩;refine⟨p.reverse,?_⟩
  have:=Qd List.reverse h
  simpa using this.symm
theorem Qq:∀ (c n:List (List UInt8)),c <+: n->cn c n<=0
 | [],[],_=>by simp[cn]
 | [],_::_,_=>by simp[cn]
 | x::c,[],h=>by have:=h.length_le;simp at this
 | x::c,y::n,h=>by
   obtain⟨rfl,h2⟩:=List.cons_prefix_cons.1 h;rw[cn,u7,Qc (by simp)];exact Qq c n h2
theorem Qp:∀ (c a b:List (List UInt8)),c <+: b->cn c a<=0->cn a b<=0->c <+: a
 | [],a,b,_,_,_=>List.nil_prefix
 | x::c,[],b,_,h,_=>by simp[cn] at h
 | x::c,y::a,[],h,_,_=>by have:=h.length_le;simp at this
 | x::c,y::a,z::b,h,h1,h2=>by
   obtain⟨rfl,h3⟩:=List.cons_prefix_cons.1 h;rw[cn] at h1 h2;by_cases b7:cm x y=0
   ·have e:=rk b7;subst e;rw[u7,Qc (by simp)] at h1 h2;exact List.cons_prefix_cons.2 ⟨rfl,Qp c a b h3 h1 h2⟩
   ·rw[Qb b7] at h1
    have:=toS.anti x y (by omega)
    rw[Qb (by omega)] at h2;omega
theorem Fj{s z:List UInt8}(hz:z≠[])(h:bq s z=true):aI z s<=0:=by
 rw[AE];exact Qq _ _ ((ou hz).1 h)
theorem J7{c a b:List UInt8}(hc:c≠[])(h:bq b c=true)(h1:aI c a<=0)(h2:aI a b<=0):bq a c=true:=by
 rw[AE] at h1 h2;exact (ou hc).2 (Qp _ _ _ ((ou hc).1 h) h1 h2)
theorem J8{a b c:List UInt8}(hb:b≠[])(hc:c≠[])(h1:bq a b=true)(h2:bq b c=true):bq a c=true:=
 (ou hc).2 (((ou hc).1 h2).trans ((ou hb).1 h1))
theorem Fk(a:List UInt8):bq a a=true:=by simp[bq]
theorem Rt{n a b:List UInt8}(ha:a≠[])(hb:b≠[])(h1:bq n a=true)(h2:bq n b=true):bq a b=true\/bq b a=true:=by
 rcases List.prefix_or_prefix_of_prefix ((ou ha).1 h1) ((ou hb).1 h2) with h | h
 ·exact .inr ((ou ha).2 h)
 ·exact .inl ((ou hb).2 h)
def iN(C:List UInt8->Bool)(n o:List UInt8):Prop:=
 (o = []/\∀ c,C c=true->bq n c=false)\/(C o=true/\bq n o=true/\∀ c,C c=true->bq o c=true->c=o)
theorem iN.unique{C:List UInt8->Bool}(hC:∀ c,C c=true->c≠[]){n a b:List UInt8}(ha:iN C n a)(hb:iN C n b):a=b:=by
 rcases ha with ⟨rfl,ha⟩ | ⟨a1,a2,a3⟩
 ·rcases hb with ⟨rfl,_⟩ | ⟨b1,b2,_⟩
  ·rfl
  ·rw[ha b b1] at b2;cases b2
 ·rcases hb with ⟨rfl,hb⟩ | ⟨b1,b2,b3⟩
  ·rw[hb a a1] at a2;cases a2
  ·rcases Rt (hC a a1) (hC b b1) a2 b2 with h | h
   ·exact (a3 b b1 h).symm
   ·exact b3 a a1 h
theorem iN.above{C:List UInt8->Bool}(hC:∀ c,C c=true->c≠[]){n o c:List UInt8}(h:iN C n o)(hc:C c=true)(hu:bq n c=true):C o=true/\bq n o=true/\bq c o=true:=by
 rcases h with ⟨_,h⟩ | ⟨h1,h2,h3⟩
 ·rw[h c hc] at hu;cases hu
 ·refine⟨h1,h2,?_⟩;rcases Rt (hC o h1) (hC c hc) h2 hu with h | h
  ·rw[h3 c hc h];exact Fk o
  ·exact h
def dg(C:List UInt8->Bool)(cut n:List UInt8):List UInt8:=
 if (if cut≠[]/\bq n cut=false then [] else cut) = []/\C n=true then n else if cut≠[]/\bq n cut=false then [] else cut
theorem Rk{C:List UInt8->Bool}{n:List UInt8}(h:∀ c,C c=true->bq n c=true->c=n):iN C n (if C n=true then n else []):=by
 split
 ·rename_i hn;exact .inr ⟨hn,Fk n,h⟩
 ·rename_i hn;refine .inl ⟨rfl,λc hc=>?_⟩
  cases hu:bq n c with
  | false=>rfl
  | true=>rw[<-h c hc hu] at hn;exact absurd hc hn
theorem aBQ{C:List UInt8->Bool}(hC:∀ c,C c=true->c≠[]){n:List UInt8}(aA:∀ c,C c=true->¬ aI c n<0):iN C n (dg C [] n):=by
 have h:=Rk (n:=n) (λc hc hu=>by
  have h1:=Fj (hC c hc) hu;have h2:=aA c hc;exact DB (by omega))
 have e:dg C [] n=if C n=true then n else []:=by simp[dg]
 rw[e];exact h
theorem aBZ{C:List UInt8->Bool}(hC:∀ c,C c=true->c≠[]){m cut n:List UInt8}(hm:iN C m cut)(gk:aI m n<=0)(aA:∀ c,C c=true->aI c n<0->aI c m<=0):iN C n (dg C cut n):=by
 by_cases hcut:cut≠[]/\bq n cut=true
 ·have e:dg C cut n=cut:=by simp[dg,hcut.1,hcut.2]
  rw[e];rcases hm with ⟨h,_⟩ | ⟨h1,_,h3⟩
  ·exact absurd h hcut.1
  ·exact .inr ⟨h1,hcut.2,h3⟩
 ·have mb:∀ c,C c=true->bq n c=true->c=n:=λc hc hu=>by
   refine Classical.byContradiction λhne=>hcut ?_;have h1:=Fj (hC c hc) hu;have aa:aI c n<0:=by
    rcases Int.lt_or_eq_of_le h1 with h | h
    ·exact h
    ·exact absurd (DB h) hne
   have h2:=J7 (hC c hc) hu (aA c hc aa) gk;obtain⟨a1,_,a3⟩:=hm.above hC hc h2;exact⟨hC _ a1,J8 (hC c hc) (hC _ a1) hu a3⟩
  have h:=Rk mb;have e:dg C cut n=if C n=true then n else []:=by
   unfold dg;by_cases h0:cut = []
   ·subst h0;simp
   ·have:bq n cut=false:=by
     cases hu:bq n cut with
     | false=>rfl
     | true=>exact absurd ⟨h0,hu⟩ hcut
    simp[h0,this]
  rw[e];exact h
structure L3(C:List UInt8->Bool)(H:List (List UInt8)):Prop where
 cut:∀ h∈H,C h=true/\∀ c,C c=true->bq h c=true->c=h
 sorted:H.Pairwise λa b=>aI a b<0
theorem XV{C:List UInt8->Bool}(hC:∀ c,C c=true->c≠[]){H:List (List UInt8)}(hH:L3 C H){n:List UInt8}(aA:∀ h,C h=true->(∀ c,C c=true->bq h c=true->c=h)->aI h n<=0->h∈H){k:Nat}(hk:k<=H.length)(h1:∀ j (hj:j<H.length),j<k->aI H[j] n<=0)(h2:∀ j (hj:j<H.length),k<=j->0<aI H[j] n) :
 iN C n (if h:0<k/\bq n (H[k - 1]?.getD [])=true then H[k - 1]?.getD [] else []):=by
 have gl:∀ c,C c=true->bq n c=true->(∀ d,C d=true->bq c d=true->d=c)->0<k/\∃ bW:k - 1<H.length,H[k - 1]=c:=λc hc hu ht=>by
  have gk:=Fj (hC c hc) hu;obtain⟨j,hj,rfl⟩:=nQ.1 (aA c hc ht gk);have tz:j<k:=by
   refine Nat.lt_of_not_le λh=>?_
   have:=h2 j hj h
   omega
  refine⟨by omega,by omega,?_⟩;rcases Nat.lt_or_ge j (k - 1) with h | h
  ·have h3:=List.pairwise_iff_getElem.1 hH.sorted j (k - 1) hj (by omega) h;have h4:=h1 (k - 1) (by omega) (by omega);have h5:=J7 (hC _ hc) hu (by omega) h4;have h6:=(hH.cut _ (List.getElem_mem (show k - 1<H.length by omega))).2 _ hc h5;exact h6.symm
  ·obtain rfl:j=k - 1:=by omega
   rfl
 split
 ·rename_i h;obtain⟨h0,h⟩:=h;have hl:k - 1<H.length:=by omega
  rw[aQ hl] at h |-;obtain⟨a,b⟩:=hH.cut _ (List.getElem_mem hl);exact .inr ⟨a,h,b⟩
 ·rename_i h;refine .inl ⟨rfl,λc hc=>?_⟩
  cases hu:bq n c with
  | false=>rfl
  | true=>
   exfalso;have hex:∀ (m:Nat) (c:List UInt8),(back c).length<=m->C c=true->bq n c=true->∃ t,C t=true/\bq n t=true/\∀ d,C d=true->bq t d=true->d=t:=by
    intro m
    induction m with
    | zero=>
     intro c hm hc hu;refine⟨c,hc,hu,λd hd ID=>?_⟩;have h3:=((ou (hC d hd)).1 ID);exact Ax (h3.eq_of_length_le (by omega))
    | succ m ih=>
     intro c hm hc hu;by_cases ht:∀ d,C d=true->bq c d=true->d=c
     ·exact⟨c,hc,hu,ht⟩
     ·obtain⟨d,hd⟩:=Classical.not_forall.1 ht;obtain⟨gE,hd⟩:=Classical.not_imp.1 hd;obtain⟨iz,IG⟩:=Classical.not_imp.1 hd;have h3:=((ou (hC d gE)).1 iz);refine ih d ?_ gE (J8 (hC c hc) (hC d gE) hu iz);refine Nat.le_of_lt_succ (lQ (Nat.lt_of_not_le λhl=>IG (Ax (h3.eq_of_length_le hl))) hm)
   obtain⟨t,t1,t2,t3⟩:=hex _ c (bQ _) hc hu;obtain⟨p1,p2,p3⟩:=gl t t1 t2 t3;refine h ⟨p1,?_⟩;rw[aQ p2,p3];exact t2
end Np
section
open Go.RowKit
theorem asK{a b:Bool}(h:a=b):Ending.returned (.tuple #[.bool a,.int .i64 0]) = .returned (.tuple #[.bool b,.int .i64 0]):=by rw[h]
def Np.zd(s z:ByteArray):Bool:=decide (z.size<=s.size)&&((s.extract (s.size - z.size) s.size).toList == z.toList)
def Np.under(s z:ByteArray):Bool:=(s.toList == z.toList)||(z.toList == [46])||(decide (z.size<s.size)&&Np.zd s z&&((s.data.toList[s.size - z.size - 1]?).map UInt8.toNat == some 46))
theorem aBX(s z:ByteArray)(h:z.size<=s.size):Np.zd s z=(s.data.toList.drop (s.data.toList.length - z.data.toList.length) == z.data.toList):=by
 unfold Np.zd;rw[uQ h,Bool.true_and,dQ,dQ,DH,aZ,aZ]
theorem aDJ(s z:ByteArray):Np.under s z=Np.bq s.data.toList z.data.toList:=by
 unfold Np.under Np.bq;rw[dQ,dQ,aZ,aZ];congr 1;by_cases h:z.size<s.size
 ·rw[aBX s z (by omega),aZ,aZ,uQ h];congr 1;have e:s.data.toList[s.size - z.size - 1]?=some (s[s.size - z.size - 1]'(by omega)):=x9 s _ (by omega);rw[e];simp only[Option.map_some];rw[Bool.eq_iff_iff];simp only[beq_iff_eq,Option.some.injEq];constructor
  ·intro h;apply UInt8.toNat_inj.1;rw[h];rfl
  ·intro h;rw[h];rfl
 ·rw[tQ h];rfl
theorem WX(s z:ByteArray)(hs:s.size<=140737488355328)(hz:z.size<=140737488355328)(w:World) :
 Calls prog 320 #[.string s,.string z] w λe w'=>e = .returned (.bool (Np.zd s z))/\w'=w:=by
 go_enter func320,ntmps320;go_wp2_with fail
 all_goals
  go_ret;refine⟨ag ?_,rfl⟩;simp_all [Np.zd] <;> (intros;omega)
theorem WW(s z:ByteArray)(hs:s.size<=140737488355328)(hz:z.size<=140737488355328)(w:World) :
 Calls prog 250 #[.string s,.string z] w λe w'=>e = .returned (.bool (Np.zd s z))/\w'=w:=by
 go_enter func250,ntmps250;go_wp2_with (go_at_call 320;refine (WX s z hs hz _).mono ?_;rintro e w' ⟨rfl,rfl⟩);go_ret;exact⟨rfl,rfl⟩
theorem J9(s z:ByteArray)(hs:s.size<=140737488355328)(hz:z.size<=140737488355328)(w:World)(v1:Np.aG s.data.toList=true)(v2:Np.aG z.data.toList=true) :
 Calls prog 184 #[.string s,.string z] w λe w'=>e = .returned (.tuple #[.bool (Np.bq s.data.toList z.data.toList),.int .i64 0])/\Below w.heap.size w w':=by
 rw[<-aDJ];have V1:=jq v1;have V2:=jq v2;clear v1 v2;go_enter func184,ntmps184;go_wp2_with (first
  | (go_at_call 175;have v1:=V1.out;clear V1;refine (valid_any s hs _).mono ?_;rintro e w1 ⟨rfl,hb⟩;rw[v1];clear v1;have ay:=jq hb;clear hb)
  | (go_at_call 175;have v2:=V2.out;clear V2;refine (valid_any z hz _).mono ?_;rintro e w2 ⟨rfl,hb⟩;rw[v2];clear v2;have ak:=jq hb;clear hb)
  | (go_at_call 250;refine (WW s z hs hz _).mono ?_;rintro e w3 ⟨rfl,rfl⟩))
 all_goals
  go_ret2;refine⟨asK ?_,ay.out.trans (ak.out.mono ay.out.size)⟩;simp_all [Np.under,dQ]
 ·rename_i _ h1 h2 h3 _;have e1:(s.data == z.data)=false:=by simpa using h1
  have e2:(z.data.toList == [46])=false:=by simpa using h2
  have e3:s.data[s.size - z.size - 1]?=some s[s.size - z.size - 1]:=pQ (by simp;omega);rw[e1,e2,e3,Bool.eq_iff_iff];simp;omega
 ·intros;omega
theorem RX(s1 s2:ByteArray)(bl:s1.size<=140737488355328)(gG:s2.size<=140737488355328)(t1 t2:Int)(n1:Np.aG s1.data.toList=true)(n2:Np.aG s2.data.toList=true)(w:World) :
 Calls prog 270 #[.string s1,.int .i64 t1,.string s2,.int .i64 t2] w
  λe w'=>e = .returned (.int .i64 (Np.eO (s1.data.toList,t1) (s2.data.toList,t2)))/\Below w.heap.size w w':=by
 have hv:cmpVal s1.data.toList s2.data.toList = .tuple #[.int .i64 (Np.aI s1.data.toList s2.data.toList),.int .i64 0]:=by rw[cmpVal,n1,n2];rfl
 have HV:=jq hv;clear hv n1 n2;by_cases h:s1.data.toList=s2.data.toList
 ·have he:(!s1.toList == s2.toList)=false:=by rw[dQ,dQ,h];simp
  have hc:Np.eO (s1.data.toList,t1) (s2.data.toList,t2)=Np.cr t1 t2:=by unfold Np.eO;dsimp only;rw[h,Np.AF,Qc (by simp)]
  rw[hc];clear hc h;go_enter func270,ntmps270;go_wp2_with (go_at_call 123;refine (AD _ _ _).mono ?_;rintro e w' ⟨rfl,rfl⟩);go_ret;exact⟨rfl,vQ _ _⟩
 ·have he:(!s1.toList == s2.toList)=true:=by rw[dQ,dQ];simpa using h
  have hc:Np.eO (s1.data.toList,t1) (s2.data.toList,t2)=Np.aI s1.data.toList s2.data.toList:=by unfold Np.eO;dsimp only;rw[Qb (λe=>h (Np.DB e))]
  rw[hc];clear hc h;go_enter func270,ntmps270;go_wp2_with fail;refine (compare_any s1 s2 bl gG _).mono ?_;rintro e w1 ⟨rfl,hb⟩;rw[HV.out];have HB:=jq hb;clear hb;go_wp2_with fail;go_ret;exact⟨rfl,HB.out⟩
theorem Fl{s:Np.DSet}(h:Np.dj s=true):Np.aG s.name=true:=by
 unfold Np.dj at h;simp only[Bool.and_eq_true] at h;exact h.1.1.1.1.1.1
end
namespace Np
def cu(z:Zone)(n:List UInt8):Bool:=z.sets.any λx=>decide (x.set.type=2)&&!(x.set.name == z.apex)&&x.set.name == n
theorem Hp{z:Zone}{n:List UInt8} : cu z n=true↔∃ x∈z.sets,x.set.type=2/\x.set.name≠z.apex/\x.set.name=n:=by
 unfold cu;rw[List.any_eq_true];constructor
 ·rintro⟨x,hx,h⟩;simp only[Bool.and_eq_true,Qa,Bool.not_eq_true',beq_eq_false_iff_ne,beq_iff_eq] at h;exact⟨x,hx,h.1.1,h.1.2,h.2⟩
 ·rintro⟨x,hx,h1,h2,h3⟩;refine⟨x,hx,?_⟩;rw[h3] at h2 |-;simp[h1,h2]
def nK(C:List UInt8->Bool):List UInt8->List Signed->List (List UInt8)
 | _,[]=>[]
 | cut,x::r=>dg C cut x.set.name::nK C (dg C cut x.set.name) r
def dC(z:Zone):List (List UInt8):=nK (cu z) [] z.sets
theorem Mt(C:List UInt8->Bool):∀ (cut:List UInt8) (l:List Signed),(nK C cut l).length=l.length
 | _,[]=>rfl
 | cut,x::r=>by rw[nK,List.length_cons,Mt,List.length_cons]
theorem s6(z:Zone):(dC z).length=z.sets.length:=Mt _ _ _
structure InOrder(z:Zone):Prop where
 order:(z.sets.map (·.set)).Pairwise λa b=>gC a b<0
 name:∀ x∈z.sets,x.set.name≠[]
 type:∀ x∈z.sets,x.set.type<=8
theorem MC{a b:DSet}(h:gC a b<0):aI a.name b.name<=0:=by
 rw[DC] at h;split at h
 ·omega
 ·rename_i h0;have:=Decidable.not_not.1 h0;omega
theorem MD{a b:DSet}(h:gC a b<0)(he:a.name=b.name):a.type<b.type:=by
 rw[DC,he,AF,Qc (by simp)] at h;unfold cr at h;split at h
 ·assumption
 ·split at h <;> omega
theorem InOrder.names{z:Zone}(h:InOrder z){i j:Nat}(dD:i<j)(hj:j<z.sets.length):aI (z.sets[i]'(by omega)).set.name (z.sets[j]).set.name<=0:=by
 have:=List.pairwise_iff_getElem.1 h.order i j (by simp;omega) (by simpa using hj) dD
 rw[List.getElem_map,List.getElem_map] at this;exact MC this
theorem InOrder.types{z:Zone}(h:InOrder z){i j:Nat}(dD:i<j)(hj:j<z.sets.length)(he:(z.sets[i]'(by omega)).set.name=(z.sets[j]).set.name):(z.sets[i]'(by omega)).set.type<(z.sets[j]).set.type:=by
 have:=List.pairwise_iff_getElem.1 h.order i j (by simp;omega) (by simpa using hj) dD
 rw[List.getElem_map,List.getElem_map] at this;exact MD this he
theorem adX{a b c:List UInt8}(h1:aI a b<=0)(h2:aI b c<=0)(he:a=c):b=a:=by
 subst he;by_cases h:aI a b<0
 ·have:=eW.anti _ _ h;omega
 ·exact (eW.zero _ _ (by omega)).symm
theorem AG{z:Zone}(h:InOrder z):∀ c,cu z c=true->c≠[]:=λc hc=>by
 obtain⟨x,hx,_,_,rfl⟩:=Hp.1 hc;exact h.name x hx
theorem MN{z:Zone}(h:InOrder z){c:List UInt8}(hc:cu z c=true){i:Nat}(hi:i<z.sets.length)(aa:aI c (z.sets[i]).set.name<0):∃ j,∃ hj:j<i,(z.sets[j]'(by omega)).set.name=c:=by
 obtain⟨x,hx,_,_,rfl⟩:=Hp.1 hc;obtain⟨j,hj,rfl⟩:=nQ.1 hx;refine⟨j,?_,rfl⟩;refine Nat.lt_of_not_le λdD=>?_;rcases Nat.lt_or_eq_of_le dD with hl | rfl
 ·have h1:=h.names hl hj;have h2:=eW.anti _ _ aa;omega
 ·rw[AF] at aa;omega
theorem Mu{z:Zone}(h:InOrder z):∀ (l:List Signed) (i:Nat) (cut:List UInt8),z.sets.drop i=l->i<=z.sets.length->(i=0/\cut = []\/∃ hi:i - 1<z.sets.length,0<i/\iN (cu z) (z.sets[i - 1]).set.name cut)->∀ (k:Nat) (x:Signed) (b:List UInt8),l[k]?=some x->(nK (cu z) cut l)[k]?=some b->iN (cu z) x.set.name b
 | [],_,_,_,_,_,k,x,b,hx,_=>by simp at hx
 | y::l,i,cut,hd,hi,hc,k,x,b,hx,hb=>by
   have dE:i<z.sets.length:=by
    have:=Qd List.length hd
    simp at this;omega
   have hy:z.sets[i]=y:=by
    have:=List.getElem?_drop (xs:=z.sets) (i:=i) (j:=0)
    rw[hd,Nat.add_zero,aQ dE] at this;simpa using this.symm
   have hd':z.sets.drop (i+1)=l:=by
    have:=Qd (List.drop 1) hd
    rw[List.drop_drop] at this;simpa using this
   have O2:iN (cu z) y.set.name (dg (cu z) cut y.set.name):=by
    rcases hc with ⟨rfl,rfl⟩ | ⟨h1,h0,hc⟩
    ·refine aBQ (AG h) (λc tk aa=>?_);rw[<-hy] at aa;obtain⟨j,hj,_⟩:=MN h tk dE aa;omega
    ·refine aBZ (AG h) hc ?_ (λc tk aa=>?_)
     ·rw[<-hy];exact h.names (by omega) dE
     ·rw[<-hy] at aa;obtain⟨j,hj,X3⟩:=MN h tk dE aa;rw[<-X3];rcases Nat.lt_or_eq_of_le (show j<=i - 1 by omega) with hl | he
      ·exact h.names hl h1
      ·subst he;rw[AF];exact Int.le_refl 0
   cases k with
   | zero=>
    simp only[nK,List.getElem?_cons_zero,Option.some.injEq] at hx hb;rw[<-hx,<-hb];exact O2
   | succ k=>
    simp only[nK,List.getElem?_cons_succ] at hx hb;exact Mu h l (i+1) _ hd' dE (.inr ⟨by simpa using dE,by omega,by simpa [hy] using O2⟩) k x b hx hb
theorem UZ{z:Zone}(h:InOrder z){i:Nat}{x:Signed}{b:List UInt8}(hx:z.sets[i]?=some x)(hb:(dC z)[i]?=some b):iN (cu z) x.set.name b:=
 Mu h z.sets 0 [] rfl (jQ _) (.inl ⟨rfl,rfl⟩) i x b hx hb
theorem U0{z:Zone}(h:InOrder z){B:List (List UInt8)}(hl:B.length=z.sets.length)(hB:∀ (i:Nat) (x:Signed) (b:List UInt8),z.sets[i]?=some x->B[i]?=some b->iN (cu z) x.set.name b):B=dC z:=by
 refine List.ext_getElem (hl.trans (s6 z).symm) λi h1 h2=>?_;have hi:i<z.sets.length:=by omega
 exact iN.unique (AG h) (hB i _ _ (aQ hi) (aQ h1)) (UZ h (aQ hi) (aQ h2))
def jl(t:Int)(at':Bool):Bool:=if t=3\/t=6 then !at' else if t=4\/t=7 then at' else true
structure SigOk(apex:List UInt8)(l:List Sig)(i:Nat)(g:Sig):Prop where
 zone:g.zone=apex
 key:1<=g.key/\g.key<=1000000
 alg:1<=g.alg/\g.alg<=3
 win:0<=g.frm/\g.frm<=g.til/\g.til<=20000000
 same:∀ a,l[0]?=some a->g.frm=a.frm/\g.til=a.til
 up:∀ p,l[i - 1]?=some p->0<i->p.key<g.key
def fT(apex:List UInt8)(l:List Sig):Prop:=l.length<=6/\∀ i g,l[i]?=some g->SigOk apex l i g
def jI(x:DSet)(b:List UInt8):Prop:=(b = []->x.type≠6)/\(b≠[]->b=x.name->x.type=2\/x.type=6\/x.type=8\/x.type=1)/\(b≠[]->b≠x.name->x.type=1)
structure VZone(z:Zone):Prop where
 right:eF z=true
 few:z.sets.length<=20000
 start:∃ x∈z.sets,x.set.name=z.apex/\x.set.type=4
 server:∃ x∈z.sets,x.set.name=z.apex/\x.set.type=2
 fits:∀ x∈z.sets,jl x.set.type (x.set.name == z.apex)=true
 aliasBefore:∀ i (hi:i+1<z.sets.length),(z.sets[i+1]).set.type=3->(z.sets[i]).set.name≠(z.sets[i+1]).set.name
 aliasBehind:∀ i (hi:i+1<z.sets.length),(z.sets[i]).set.type=3->(z.sets[i+1]).set.name=(z.sets[i]).set.name->(z.sets[i+1]).set.type=8
 cuts:∀ (i:Nat) (x:Signed) (b:List UInt8),z.sets[i]?=some x->(dC z)[i]?=some b->jI x.set b
 sigs:∀ (i:Nat) (x:Signed) (b:List UInt8),z.sets[i]?=some x->(dC z)[i]?=some b->b≠[]->x.set.type=2\/x.set.type=1->x.sigs = []
 form:∀ x∈z.sets,fT z.apex x.sigs
theorem VZone.inOrder{z:Zone}(h:eF z=true):InOrder z:=by
 unfold eF at h;simp only[Bool.and_eq_true] at h;have av:∀ (l:List Signed) (p:Option DSet),jm z.apex p l=true->(p.toList++l.map (·.set)).Pairwise (λa b=>gC a b<0)/\∀ x∈l,dj x.set=true:=by
  intro l
  induction l with
  | nil=>intro p _;cases p <;> simp
  | cons x l ih=>
   intro p h;unfold jm at h;rw[Bool.and_eq_true,Bool.and_eq_true,Bool.and_eq_true,Bool.and_eq_true] at h;obtain⟨i1,i2⟩:=ih (some x.set) h.2;have i1:(x.set::l.map (·.set)).Pairwise (λa b=>gC a b<0):=i1;refine⟨?_,λy hy=>?_⟩
   ·cases p with
    | none=>exact i1
    | some q=>
     have h2:gC q x.set<0:=by simpa using h.1.2
     refine List.pairwise_cons.2 ⟨λy hy=>?_,i1⟩;rcases List.mem_cons.1 hy with e | hy
     ·rw[e];exact h2
     ·have h3:=(List.pairwise_cons.1 i1).1 y hy;rw[Ho] at h2 h3 |-;exact ze.trans _ _ _ h2 h3
   ·rcases List.mem_cons.1 hy with e | hy
    ·subst e;exact h.1.1.2
    ·exact i2 y hy
 obtain⟨h1,h2⟩:=av _ none h.2;refine⟨h1,λx hx=>?_,λx hx=>?_⟩
 ·have hv:=(sr (h2 x hx)).1;intro e;rw[e] at hv;exact absurd hv (by decide)
 ·exact (sr (h2 x hx)).2.2.1
def nj(l:List Signed):List UInt8:=l.foldl (λa x=>if x.set.type=3 then x.set.name else a) []
structure RZoneOk(z:Zone):Prop where
 right:eF z=true
 few:z.sets.length<=20000
 start:∃ x∈z.sets,x.set.name=z.apex/\x.set.type=4
 server:∃ x∈z.sets,x.set.name=z.apex/\x.set.type=2
 fits:∀ x∈z.sets,jl x.set.type (x.set.name == z.apex)=true
 three:∀ i (hi:i+1<z.sets.length),(z.sets[i]).set.name=(z.sets[i+1]).set.name->(z.sets[i+1]).set.type≠3/\(nj (z.sets.take (i+2))=(z.sets[i+1]).set.name->(z.sets[i+1]).set.type=8)
 cuts:∀ (i:Nat) (x:Signed) (b:List UInt8),z.sets[i]?=some x->(dC z)[i]?=some b->jI x.set b
 sigs:∀ (i:Nat) (x:Signed) (b:List UInt8),z.sets[i]?=some x->(dC z)[i]?=some b->b≠[]->x.set.type=2\/x.set.type=1->x.sigs = []
 form:∀ x∈z.sets,fT z.apex x.sigs
theorem JE(l:List Signed)(x:Signed):nj (l ++ [x])=if x.set.type=3 then x.set.name else nj l:=by simp[nj]
theorem PL:∀ (l:List Signed) (a:List UInt8),l.foldl (λa x=>if x.set.type=3 then x.set.name else a) a=a\/∃ (j:Nat) (hj:j<l.length),(l[j]).set.type=3/\(l[j]).set.name=l.foldl (λa x=>if x.set.type=3 then x.set.name else a) a
 | [],_=>.inl rfl
 | x::l,a=>by
   rw[List.foldl_cons];rcases PL l (if x.set.type=3 then x.set.name else a) with h | ⟨j,hj,h1,h2⟩
   ·rw[h];split
    ·rename_i ht;exact .inr ⟨0,by simp,ht,rfl⟩
    ·exact .inl rfl
   ·exact .inr ⟨j+1,by simpa using hj,h1,h2⟩
theorem Z8(l:List Signed):nj l = []\/∃ (j:Nat) (hj:j<l.length),(l[j]).set.type=3/\(l[j]).set.name=nj l:=PL l []
theorem aHK(z:Zone):VZone z↔RZoneOk z:=by
 constructor
 ·intro h;have ho:=VZone.inOrder h.right;refine⟨h.right,h.few,h.start,h.server,h.fits,λi hi he=>?_,h.cuts,h.sigs,h.form⟩;have h3:(z.sets[i+1]).set.type≠3:=λht=>h.aliasBefore i hi ht he;refine⟨h3,λhl=>?_⟩;rcases Z8 (z.sets.take (i+2)) with e | ⟨j,hj,j1,j2⟩
  ·rw[e] at hl;exact absurd hl.symm (ho.name _ (List.getElem_mem hi))
  ·rw[List.getElem_take] at j1 j2;rw[hl] at j2;have tw:j<i+2:=by have:=hj;rw[List.length_take] at this;omega
   have tv:j≠i+1:=λe=>by subst e;exact h3 j1
   have mP:j+1<z.sets.length:=by omega
   have nW:(z.sets[j+1]).set.name=(z.sets[j]).set.name:=by
    rcases Nat.lt_or_eq_of_le (show j+1<=i+1 by omega) with hl | l5
    ·exact adX (ho.names (by omega) mP) (ho.names hl hi) j2
    ·have:j=i:=by omega
     subst this;exact he.symm
   have h8:=h.aliasBehind j mP j1 nW;rcases Nat.lt_or_eq_of_le (show j+1<=i+1 by omega) with hl | l5
   ·have h9:=ho.types hl hi (nW.trans j2);have pT:=ho.type _ (List.getElem_mem hi);omega
   ·have:j=i:=by omega
    subst this;exact h8
 ·intro h;have ho:=VZone.inOrder h.right;refine⟨h.right,h.few,h.start,h.server,h.fits,λi hi ht he=>?_,λi hi ht he=>?_,h.cuts,h.sigs,h.form⟩
  ·exact (h.three i hi he).1 ht
  ·obtain⟨h1,h2⟩:=h.three i hi he.symm;refine h2 ?_;have e1:z.sets.take (i+2)=z.sets.take (i+1) ++ [z.sets[i+1]]:=fQ hi;have e2:z.sets.take (i+1)=z.sets.take i ++ [z.sets[i]]:=fQ (by omega);rw[e1,JE,Qc h1,e2,JE,Qb ht];exact he.symm
end Np
namespace Np
variable {α:Type} [DecidableEq α]
def jT(o:List α)(x:α):List α:=if x∈o then o else o ++ [x]
def cM(l:List α):List α:=l.foldl jT []
theorem abY{o:List α}{x y:α} : y∈jT o x↔y∈o\/y=x:=by
 unfold jT;split
 ·rename_i h;constructor
  ·exact .inl
  ·rintro (h1 | rfl);exact h1;exact h
 ·simp
theorem aeX{o:List α}{x:α}(h:o.Nodup):(jT o x).Nodup:=by
 unfold jT;split
 ·exact h
 ·rename_i hx;exact List.nodup_append.2 ⟨h,by simp,λa ha b hb=>by rw[List.mem_singleton] at hb;rintro rfl;exact hx (hb ▸ ha)⟩
theorem PU:∀ (l o:List α) (y:α),y∈l.foldl jT o↔y∈o\/y∈l
 | [],o,y=>by simp
 | x::l,o,y=>by
   rw[List.foldl_cons,PU l,abY,List.mem_cons,or_assoc]
theorem P1:∀ (l o:List α),o.Nodup->(l.foldl jT o).Nodup
 | [],_,h=>h
 | _::l,_,h=>P1 l _ (aeX h)
theorem wI{l:List α}{y:α} : y∈cM l↔y∈l:=by unfold cM;rw[PU];simp
theorem yR(l:List α):(cM l).Nodup:=P1 l [] List.nodup_nil
theorem CF(l:List α)(x:α):cM (l ++ [x])=jT (cM l) x:=by simp[cM]
theorem Hi{o:List α}{x:α}(h:x∈o):jT o x=o:=Qb h
theorem ub(l:List α):(cM l).length<=l.length:=by
 have:∀ (l o:List α),(l.foldl jT o).length<=o.length+l.length:=by
  intro l
  induction l with
  | nil=>intro o;simp
  | cons x l ih=>
   intro o;have h:=ih (jT o x);have h2:(jT o x).length<=o.length+1:=by unfold jT;split <;> simp
   rw[List.foldl_cons,List.length_cons];omega
 have h:=this l [];simpa [cM] using h
omit [DecidableEq α] in
theorem J2{c:α->α->Int}(hc:TO c):∀ (l m:List α),l.Pairwise (λa b=>c a b<0)->m.Pairwise (λa b=>c a b<0)->(∀ x,x∈l↔x∈m)->l=m
 | [],[],_,_,_=>rfl
 | [],b::m,_,_,h=>by have:=(h b).2 (by simp);cases this
 | a::l,[],_,_,h=>by have:=(h a).1 (by simp);cases this
 | a::l,b::m,hl,hm,h=>by
   obtain⟨l1,l2⟩:=List.pairwise_cons.1 hl;obtain⟨m1,m2⟩:=List.pairwise_cons.1 hm;have e:a=b:=by
    rcases List.mem_cons.1 ((h a).1 (by simp)) with e | h1
    ·exact e
    ·rcases List.mem_cons.1 ((h b).2 (by simp)) with e | h2
     ·exact e.symm
     ·have:=hc.anti _ _ (l1 b h2)
      have:=m1 a h1
      omega
   subst e;rw[J2 hc l m l2 m2 (λx=>by
    constructor
    ·intro hx;rcases List.mem_cons.1 ((h x).1 (mQ _ hx)) with e | h1
     ·subst e;have:=l1 x hx;rw[hc.self] at this;omega
     ·exact h1
    ·intro hx;rcases List.mem_cons.1 ((h x).2 (mQ _ hx)) with e | h1
     ·subst e;have:=m1 x hx;rw[hc.self] at this;omega
     ·exact h1)]
def ua(l:List (List UInt8)):List (List UInt8):=l.mergeSort λa b=>!decide (aI b a<0)
theorem Fe(l:List (List UInt8)):(ua l).Perm l:=List.mergeSort_perm _ _
theorem JW{l:List (List UInt8)}(h:l.Nodup):(ua l).Pairwise λa b=>aI a b<0:=by
 have hs:(ua l).Pairwise λa b=>(!decide (aI b a<0))=true:=List.pairwise_mergeSort (le:=λa b=>!decide (aI b a<0)) (λx y z=>aaX eW x y z) (λx y=>aaK eW x y) l;have hn:(ua l).Nodup:=(Fe l).nodup_iff.2 h;refine (hs.and hn).imp λ{a b} ⟨h1,h2⟩=>?_;have h3:¬ aI b a<0:=by simpa using h1
 refine Int.lt_of_not_ge λh4=>?_;by_cases h5:0<aI a b
 ·exact h3 (eW.anti' _ _ h5)
 ·exact h2 (eW.zero _ _ (by omega))
def em:List (List UInt8)->List UInt8->List (List UInt8)
 | [],a=>[a]
 | x::l,a=>if aI x a<0 then x::em l a else if x=a then x::l else a::x::l
theorem Qy:∀ (l:List (List UInt8)) (a:List UInt8),l.Pairwise (λa b=>aI a b<0)->(em l a).Pairwise (λa b=>aI a b<0)/\∀ y,y∈em l a↔y∈l\/y=a
 | [],a,_=>⟨by simp[em],λy=>by simp[em]⟩
 | x::l,a,h=>by
   obtain⟨h1,h2⟩:=List.pairwise_cons.1 h;rw[em];split
   ·rename_i aa;obtain⟨i1,i2⟩:=Qy l a h2;refine⟨List.pairwise_cons.2 ⟨λy hy=>?_,i1⟩,λy=>?_⟩
    ·rcases (i2 y).1 hy with hy | rfl
     ·exact h1 y hy
     ·exact aa
    ·rw[List.mem_cons,i2,List.mem_cons,or_assoc]
   ·rename_i aa;split
    ·rename_i he;subst he;refine⟨h,λy=>?_⟩;constructor
     ·exact .inl
     ·rintro (hy | rfl);exact hy;simp
    ·rename_i hne;have yg:aI a x<0:=by
      by_cases h0:0<aI x a
      ·exact eW.anti' _ _ h0
      ·exact absurd (eW.zero _ _ (by omega)) hne
     refine⟨List.pairwise_cons.2 ⟨λy hy=>?_,h⟩,λy=>?_⟩
     ·rcases List.mem_cons.1 hy with e | hy
      ·subst e;exact yg
      ·exact eW.trans _ _ _ yg (h1 y hy)
     ·rw[List.mem_cons,Or.comm]
end Np
section
open Go.RowKit
def dm(_:World)(_:Nat)(e:List Value)(g:Np.Sig):Prop:=∃ s:ByteArray,s.data.toList=g.zone/\s.size<=140737488355328/\e = [.string s,.int .i64 g.key,.int .i64 g.alg,.int .i64 g.frm,.int .i64 g.til,.int .u64 g.sum]
theorem dH:dl dm:=λ_ _ _ _ _ h _=>h
theorem fz:dJ dm:=λ_ _ _ _ _ h _=>h
def bk(W:World)(B:Nat)(e:List Value)(x:Np.Signed):Prop:=∃ (s:ByteArray) (v u:Value),s.data.toList=x.set.name/\s.size<=140737488355328/\SlR bF 3 W B v x.set.data/\SlR dm 6 W B u x.sigs/\e = [.string s,.int .i64 x.set.type,.int .i64 x.set.life,v,u]
theorem ba:dl bk:=λ_ _ _ _ _ ⟨s,v,u,h1,h2,h3,h4,h5⟩ hb=>⟨s,v,u,h1,h2,h3.keep cH hb,h4.keep dH hb,h5⟩
theorem bY:dJ bk:=λ_ _ _ _ _ ⟨s,v,u,h1,h2,h3,h4,h5⟩ hb=>⟨s,v,u,h1,h2,h3.more du hb,h4.more fz hb,h5⟩
def Uw(W:World)(B:Nat)(e:List Value)(z:Np.Zone):Prop:=∃ (s:ByteArray) (v:Value),s.data.toList=z.apex/\s.size<=140737488355328/\SlR bk 5 W B v z.sets/\e = [.string s,v]
theorem SlR.later{α:Type}{R:World->Nat->List Value->α->Prop}{sz:Nat}{w w':World}{v:Value}{xs:List α}(hk:dl R)(hm:dJ R)(h:SlR R sz w w.heap.size v xs)(hb:Below w.heap.size w w'):SlR R sz w' w'.heap.size v xs:=(h.keep hk hb).more hm hb.size
theorem DF{w:World}{B:Nat}{v:Value}{xs:List Np.Datum}(h:SlR bF 3 w B v xs){k:Nat}{x:Np.Datum}(hx:xs[k]?=some x):∃ (b o c:Nat) (s:ByteArray),v = .slice (some ⟨b,o,none⟩) xs.length c/\b<B/\xs.length<=c/\s.data.toList=x.text/\s.size<=140737488355328/\
 w.cell? ⟨b,o+k * 3,none⟩=some (.string s)/\w.cell? ⟨b,o+k * 3+1,none⟩=some (.int .i64 x.n)/\w.cell? ⟨b,o+k * 3+2,none⟩=some (.int .i64 x.m):=by
 obtain⟨A,c,rfl,hc,_,he⟩:=h;obtain⟨b,o,e,rfl,hb,_,hce,s,h1,h2,rfl⟩:=he k x hx;exact⟨b,o,c,s,rfl,hb,hc,h1,h2,by have:=hce 0 _ rfl;simpa using this,hce 1 _ rfl,hce 2 _ rfl⟩
theorem eV{w:World}{B:Nat}{v:Value}{xs:List Np.Signed}(h:SlR bk 5 w B v xs){k:Nat}{x:Np.Signed}(hx:xs[k]?=some x):∃ (b o c:Nat) (s:ByteArray) (dv sv:Value),v = .slice (some ⟨b,o,none⟩) xs.length c/\b<B/\xs.length<=c/\s.data.toList=x.set.name/\s.size<=140737488355328/\SlR bF 3 w B dv x.set.data/\SlR dm 6 w B sv x.sigs/\
 w.cell? ⟨b,o+k * 5,none⟩=some (.string s)/\w.cell? ⟨b,o+k * 5+1,none⟩=some (.int .i64 x.set.type)/\w.cell? ⟨b,o+k * 5+2,none⟩=some (.int .i64 x.set.life)/\w.cell? ⟨b,o+k * 5+3,none⟩=some dv/\w.cell? ⟨b,o+k * 5+4,none⟩=some sv:=by
 obtain⟨A,c,rfl,hc,_,he⟩:=h;obtain⟨b,o,e,rfl,hb,_,hce,s,dv,sv,h1,h2,h3,h4,rfl⟩:=he k x hx;exact⟨b,o,c,s,dv,sv,rfl,hb,hc,h1,h2,h3,h4,by have:=hce 0 _ rfl;simpa using this,hce 1 _ rfl,hce 2 _ rfl,hce 3 _ rfl,hce 4 _ rfl⟩
theorem al{α:Type}{R:World->Nat->List Value->α->Prop}{sz:Nat}{w:World}{B:Nat}{v:Value}{xs:List α}(h:SlR R sz w B v xs):∃ A c,v = .slice A xs.length c/\xs.length<=c/\xs.length<=140737488355328:=by
 obtain⟨A,c,h1,h2,h3,_⟩:=h;exact⟨A,c,h1,h2,h3⟩
end
namespace Np
structure Host where
 name:List UInt8
 addr:Int
 owner:Int
deriving DecidableEq
structure Copy where
 host:Int
 frm:Int
 til:Int
 zone:Zone
deriving DecidableEq
structure Placed where
 host:Int
 zone:Zone
deriving DecidableEq
structure Held where
 zone:List UInt8
 signed:Signed
 fresh:List Span
 spans:List Span
deriving DecidableEq
structure Hist where
 hosts:List Host
 copies:List Copy
 anchor:DSet
 hints:List Int
 drift:Int
 stop:Int
structure WorldP where
 hosts:List Host
 zones:List Placed
 anchor:DSet
 hints:List Int
noncomputable def yes(P:Prop):Bool:=@decide P (Classical.propDecidable P)
theorem bO{P:Prop}(h:P):yes P=true:=by unfold yes;exact @uQ _ (Classical.propDecidable P) h
theorem aN{P:Prop}(h:¬ P):yes P=false:=by unfold yes;exact @tQ _ (Classical.propDecidable P) h
theorem fm{P:Prop} : yes P=true↔P:=by unfold yes;exact @decide_eq_true_iff _ (Classical.propDecidable P)
theorem sB{P Q:Prop}(h:P↔Q):yes P=yes Q:=by rw[Bool.eq_iff_iff,fm,fm];exact h
structure HostOk(h:Host):Prop where
 name:aG h.name=true
 wild:eh h.name=false
 addr:1<=h.addr/\h.addr<=1000000
 owner:0<=h.owner/\h.owner<=31
structure VHosts(l:List Host):Prop where
 few:l.length<=64
 each:∀ h∈l,HostOk h
 addrs:(l.map (·.addr)).Nodup
structure VRoot(a:DSet)(hints:List Int):Prop where
 set:dj a=true
 type:a.type=6
 name:a.name = [46]
 few:1<=hints.length/\hints.length<=8
 each:∀ n∈hints,1<=n/\n<=1000000
structure CopyOk(h:Hist)(c:Copy):Prop where
 host:0<=c.host/\c.host<h.hosts.length
 times:0<=c.frm/\c.frm<c.til/\c.til<=h.stop
 zone:VZone c.zone
def jH(c d:Copy):Prop:=c.host=d.host/\c.zone.apex=d.zone.apex/\c.frm<d.til/\d.frm<c.til
structure VHist(h:Hist):Prop where
 stop:1<=h.stop/\h.stop<=10000000
 drift:0<=h.drift/\h.drift<=1000
 hosts:VHosts h.hosts
 root:VRoot h.anchor h.hints
 each:∀ c∈h.copies,CopyOk h c
 apart:h.copies.Pairwise λc d=>¬ jH c d
structure VWorld(w:WorldP):Prop where
 hosts:VHosts w.hosts
 root:VRoot w.anchor w.hints
 each:∀ p∈w.zones,(0<=p.host/\p.host<w.hosts.length)/\VZone p.zone
 apart:w.zones.Pairwise λp q=>¬ (p.host=q.host/\p.zone.apex=q.zone.apex)
def cP(l:List Span):List Span:=(l.mergeSort λa b=>decide (a.frm<=b.frm)).foldl fO []
theorem Pq{l m:List Span}(h:l.Perm m)(t:Int):inS l t↔inS m t:=
 ⟨λ⟨s,hs,k⟩=>⟨s,h.mem_iff.1 hs,k⟩,λ⟨s,hs,k⟩=>⟨s,h.mem_iff.2 hs,k⟩⟩
theorem Na{l:List Span}(hf:∀ s∈l,s.frm<s.til)(hs:l.Pairwise λa b=>a.frm<=b.frm):ApartS (l.foldl fO [])/\∀ t,inS (l.foldl fO []) t↔inS l t:=by
 obtain⟨h1,h2⟩:=Rv l [] ApartS.nil hf hs (λp hp=>by cases hp);exact⟨h1,λt=>(h2 t).trans ⟨λh=>h.elim (λh=>absurd h (oa t)) id,.inr⟩⟩
theorem Rg(l:List Span):(l.mergeSort λa b=>decide (a.frm<=b.frm)).Perm l:=List.mergeSort_perm _ _
theorem azJ(l:List Span):(l.mergeSort λa b=>decide (a.frm<=b.frm)).Pairwise λa b=>a.frm<=b.frm:=by
 have:=List.pairwise_mergeSort (le:=λa b:Span=>decide (a.frm<=b.frm)) (λx y z h1 h2=>by simp at *;omega) (λx y=>by simp;omega) l
 exact this.imp λh=>by simpa using h
theorem wJ{l:List Span}(hf:∀ s∈l,s.frm<s.til):ApartS (cP l)/\∀ t,inS (cP l) t↔inS l t:=by
 obtain⟨h1,h2⟩:=Na (λs hs=>hf s ((Rg l).mem_iff.1 hs)) (azJ l);exact⟨h1,λt=>(h2 t).trans (Pq (Rg l) t)⟩
theorem afQ:cP [] = []:=by simp[cP]
theorem Cp{l m:List Span}(hf:∀ s∈l,s.frm<s.til)(hm:ApartS m)(ht:∀ t,inS m t↔inS l t):m=cP l:=by
 obtain⟨h1,h2⟩:=wJ hf;exact Mj _ _ hm h1 λt=>(ht t).trans (h2 t).symm
theorem afJ{l m:List Span}(hf:∀ s∈l,s.frm<s.til)(hp:m.Perm l)(hs:m.Pairwise λa b=>a.frm<=b.frm):m.foldl fO []=cP l:=by
 obtain⟨h1,h2⟩:=Na (λs hs=>hf s (hp.mem_iff.1 hs)) hs;exact Cp hf h1 λt=>(h2 t).trans (Pq hp t)
theorem afZ{l m:List Span}(hl:∀ s∈l,s.frm<s.til)(hm:∀ s∈m,s.frm<s.til)(h:∀ t,inS l t↔inS m t):cP l=cP m:=by
 obtain⟨h1,h2⟩:=wJ hl;exact Cp hm h1 λt=>(h2 t).trans (h t)
theorem aIQ{l:List Span}{s:Span}(hl:∀ s∈l,s.frm<s.til)(hs:s.frm<s.til):nt (cP l) s=cP (l ++ [s]):=by
 obtain⟨h1,h2⟩:=wJ hl;obtain⟨h3,h4,_⟩:=Kj (cP l) s h1 hs;refine Cp (λx hx=>?_) h3 λt=>?_
 ·rcases List.mem_append.1 hx with hx | hx
  ·exact hl x hx
  ·rw[List.mem_singleton] at hx;subst hx;exact hs
 ·rw[h4,h2,Cl,iF];constructor
  ·rintro (h | h);exact .inl h;exact .inr (.inl h)
  ·rintro (h | h | h);exact .inl h;exact .inr h;exact absurd h (oa t)
def jF(c:Copy):Span:=⟨c.frm,c.til⟩
def vd(l:List Copy)(zone:List UInt8):List Copy:=l.filter λc=>c.zone.apex == zone
def oe(c:Copy):List (Span×Signed):=c.zone.sets.map λs=>(jF c,s)
def de(l:List Copy)(zone:List UInt8):List (Span×Signed):=(vd l zone).flatMap oe
def fN(ps:List (Span×Signed))(s:Signed):List Span:=(ps.filter λp=>decide (p.2=s)).map (·.1)
def tn(f:List Span->List Span)(zone:List UInt8)(ps:List (Span×Signed)):List Held:=(cM (ps.map (·.2))).map λs=>⟨zone,s,f (fN ps s),[]⟩
theorem Fg(ps:List (Span×Signed))(p:Span×Signed)(s:Signed):fN (ps ++ [p]) s=if p.2=s then fN ps s ++ [p.1] else fN ps s:=by
 unfold fN;rw[List.filter_append];by_cases h:p.2=s
 ·simp[h]
 ·simp[h]
theorem aCY{ps:List (Span×Signed)}{s:Signed}(h:s∉ps.map (·.2)):fN ps s = []:=by
 unfold fN;rw[List.filter_eq_nil_iff.2 (λp hp=>?_)];rfl;simp only[Qa];rintro rfl;exact h (List.mem_map.2 ⟨p,hp,rfl⟩)
theorem XH(f:List Span->List Span)(zone:List UInt8)(ps:List (Span×Signed)):(tn f zone ps).length=(cM (ps.map (·.2))).length:=List.length_map _
def pub(l:List Copy)(zone:List UInt8):List Held:=tn cP zone (de l zone)
def apexes(l:List Copy):List (List UInt8):=ua (cM (l.map (·.zone.apex)))
def wW(l:List Copy)(t:Int):List Copy:=l.filter λc=>decide (c.frm<=t)&&decide (t<c.til)
def mp(c:Copy):Placed:=⟨c.host,c.zone⟩
def CG(h:Hist)(t:Int):WorldP:=⟨h.hosts,(wW h.copies t).map mp,h.anchor,h.hints⟩
theorem wH{l:List Copy}{zone:List UInt8}{p:Span×Signed} : p∈de l zone↔∃ c∈l,c.zone.apex=zone/\p.2∈c.zone.sets/\p.1=jF c:=by
 unfold de vd oe;simp only[List.mem_flatMap,List.mem_filter,List.mem_map,beq_iff_eq];constructor
 ·rintro⟨c,⟨h1,h2⟩,s,hs,rfl⟩;exact⟨c,h1,h2,hs,rfl⟩
 ·rintro⟨c,h1,h2,h3,h4⟩;exact⟨c,⟨h1,h2⟩,p.2,h3,by rw[<-h4]⟩
theorem EO{ps:List (Span×Signed)}{s:Signed}{x:Span} : x∈fN ps s↔(x,s)∈ps:=by
 unfold fN;simp only[List.mem_map,List.mem_filter,Qa];constructor
 ·rintro⟨p,⟨h1,rfl⟩,rfl⟩;exact h1
 ·intro h;exact⟨(x,s),⟨h,rfl⟩,rfl⟩
def mu(l:List Copy):Prop:=∀ c∈l,c.frm<c.til
theorem VHist.full{h:Hist}(v:VHist h):mu h.copies:=λc hc=>(v.each c hc).times.2.1
theorem Fh{l:List Copy}(hl:mu l){zone:List UInt8}{s:Signed} : ∀ x∈fN (de l zone) s,x.frm<x.til:=λx hx=>by
 obtain⟨c,hc,_,_,h4⟩:=wH.1 (EO.1 hx);have h4:x=jF c:=h4;rw[h4];exact hl c hc
theorem JA{l:List Copy}{zone:List UInt8}{s:Signed}{t:Int} : inS (fN (de l zone) s) t↔∃ c∈l,c.zone.apex=zone/\s∈c.zone.sets/\c.frm<=t/\t<c.til:=by
 constructor
 ·rintro⟨x,hx,h1,h2⟩;obtain⟨c,hc,h3,h4,h5⟩:=wH.1 (EO.1 hx);have h5:x=jF c:=h5;subst h5;exact⟨c,hc,h3,h4,h1,h2⟩
 ·rintro⟨c,hc,h3,h4,h1,h2⟩;exact⟨jF c,EO.2 (wH.2 ⟨c,hc,h3,h4,rfl⟩),h1,h2⟩
theorem PW{l:List Copy}{zone:List UInt8}{s:Signed} : s∈cM ((de l zone).map (·.2))↔∃ c∈l,c.zone.apex=zone/\s∈c.zone.sets:=by
 rw[wI,List.mem_map];constructor
 ·rintro⟨p,hp,rfl⟩;obtain⟨c,h1,h2,h3,_⟩:=wH.1 hp;exact⟨c,h1,h2,h3⟩
 ·rintro⟨c,h1,h2,h3⟩;exact⟨(jF c,s),wH.2 ⟨c,h1,h2,h3,rfl⟩,rfl⟩
theorem rY{l:List Copy}(hl:mu l){zone:List UInt8}{x:Held}(hx:x∈pub l zone):x.zone=zone/\x.spans = []/\ApartS x.fresh/\(∃ c∈l,c.zone.apex=zone/\x.signed∈c.zone.sets)/\∀ t,inS x.fresh t↔∃ c∈l,c.zone.apex=zone/\x.signed∈c.zone.sets/\c.frm<=t/\t<c.til:=by
 unfold pub tn at hx;obtain⟨s,hs,rfl⟩:=List.mem_map.1 hx;obtain⟨h1,h2⟩:=wJ (Fh hl (zone:=zone) (s:=s));exact⟨rfl,rfl,h1,PW.1 hs,λt=>(h2 t).trans JA⟩
theorem Qv{l:List Copy}{zone:List UInt8}{s:Signed}(h:∃ c∈l,c.zone.apex=zone/\s∈c.zone.sets):∃ x∈pub l zone,x.signed=s:=
 ⟨_,List.mem_map.2 ⟨s,PW.2 h,rfl⟩,rfl⟩
end Np
section
open Go.RowKit
theorem aAK(l:List UInt8):Np.aW (l ++ [46])=Np.aW l ++ [[]]:=Np.CA l []
theorem aAX:∀ (l:List UInt8) (c:UInt8) (pre:List (List UInt8)) (x:List UInt8),c≠46->Np.aW l=pre ++ [x]->Np.aW (l ++ [c])=pre ++ [x ++ [c]]:=by
 intro l
 induction l with
 | nil=>
  intro c pre x hc h;have h2:([[]]:List (List UInt8))=pre ++ [x]:=h
  cases pre with
  | nil=>simp at h2;subst h2;simp[Np.aW,hc]
  | cons a pre=>simp at h2
 | cons a r ih=>
  intro c pre x hc h;rw[List.cons_append];rw[Np.aW] at h |-;by_cases ha:a=46
  ·rw[Qb ha] at h |-
   cases pre with
   | nil=>simp at h;exact absurd h.2 (Np.qs r)
   | cons b pre=>
    simp only[List.cons_append,List.cons.injEq] at h;rw[ih c pre x hc h.2,<-h.1];rfl
  ·rw[Qc ha] at h |-;have hne:=Np.qs r
   cases hr:Np.aW r with
   | nil=>exact absurd hr hne
   | cons y ys=>
    rw[hr] at h;simp only at h
    cases pre with
    | nil=>
     simp only[List.nil_append,List.cons.injEq] at h;obtain⟨rfl,rfl⟩:=h;rw[ih c [] y hc (by rw[hr];rfl)];rfl
    | cons b pre=>
     simp only[List.cons_append,List.cons.injEq] at h;obtain⟨rfl,rfl⟩:=h;rw[ih c (y::pre) x hc (by rw[hr];rfl)];rfl
def RSt(_:World)(_:Nat)(e:List Value)(x:List UInt8):Prop:=e = [aD x]
theorem Fb:dl RSt:=λ_ _ _ _ _ h _=>h
theorem QV:dJ RSt:=λ_ _ _ _ _ h _=>h
def xk{α:Type}(R:World->Nat->List Value->α->Prop)(sz:Nat)(w:World)(xs:List α)(e:Ending)(w':World):Prop:=∃ v,e = .returned v/\SlR R sz w' w'.heap.size v xs/\Below w.heap.size w w'
theorem ahJ{W:World}{base:Nat}{e:TypeId}{g cap n:Nat}{xs:List Value}(h:W.ownsRow base e 1 (.slice (some ⟨g,0,none⟩) n cap) n xs)(j:Nat)(hj:j<n)(u:Value) :
 W.cell? ⟨g,j,none⟩=xs[j]?/\W.frozen? ⟨g,j,none⟩=false/\g<W.heap.size/\base<=g/\(W.setCell ⟨g,j,none⟩ u).ownsRow base e 1 (.slice (some ⟨g,0,none⟩) n cap) n (xs.set j u):=by
 obtain⟨h1,h2⟩:=h;rcases h2 with ⟨h2,_⟩ | ⟨g',cap',cur,h2,hb,hg,hn,hm,hs,ht⟩
 ·cases h2
 ·simp only[Value.slice.injEq,Option.some.injEq,Addr.mk.injEq,and_true,true_and] at h2;obtain⟨rfl,rfl⟩:=h2;have aa:=(eQ.1 hg).1;refine⟨?_,?_,aa,hb,by simpa using h1,.inr ⟨g,cap,cur.setIfInBounds j u,rfl,hb,?_,hn,hm,by simpa using hs,?_⟩⟩
  ·rw[<-ht];simp only[World.cell?,hg,Option.isSome_none,Bool.false_eq_true,if_false,List.getElem?_take];rw[Qb (by omega)];simp
  ·simp[World.frozen?,hg]
  ·simp only[World.setCell,Array.getElem?_modify,if_true,hg];simp
  ·rw[<-ht,Array.toList_setIfInBounds,List.take_set]
theorem Tryz.infoStr:(prog.info? 9).map (λi=>(i.zero,i.size,i.bytes))=some (some (.string ⟨#[]⟩),1,16):=by kernel_rfl
def Uy(s:ByteArray)(w:World)(v i:Value)(wr:World):Prop:=
 ∃ (k:Nat) (pre:List (List UInt8)) (x:List UInt8),k<=s.size/\i = .int .i64 k/\Np.aW (s.data.toList.take k)=pre ++ [x]/\pre.length<=k/\wr.ownsRow w.heap.size 9 1 v (pre.length+1) (pre.map aD ++ [aD x])/\Below w.heap.size w wr
theorem aBK(x:List UInt8)(s:ByteArray)(k:Nat)(hk:k<s.size):Value.string ((⟨x.toArray⟩:ByteArray)++s.extract k (k+1))=aD (x ++ [s[k]]):=by
 show Value.string _=Value.string _;congr 1;apply lH
 have:(s.extract k (k+1)).data.toList = [s[k]]:=by
  rw[Ht,J3 s k hk,List.drop_append_of_le_length (by rw[List.length_take,aZ];omega),List.drop_of_length_le (by rw[List.length_take,aZ];omega),List.nil_append]
 rw[ByteArray.data_append,Array.toList_append,this]
theorem QO(s:ByteArray)(hs:s.size<=1000000)(w:World):Calls prog 103 #[.string s] w (xk RSt 1 w (Np.aW s.data.toList)):=by
 obtain⟨i0,hi,dZ,bh,aM⟩:=info_parts Tryz.infoStr;go_enter func103,ntmps103;go_wp2;go_loopw [3,4] (λv i wr=>Uy s w v i wr) (λ_ i _=>s.size - (intOf i).toNat)
 case atStart=>
  refine⟨0,[],[],jQ _,rfl,rfl,bQ _,⟨rfl,.inr ⟨w.heap.size,1,#[.string ⟨#[]⟩],rfl,bQ _,heap_alloc_new _ _,by simp,by simp[maxLen],rfl,rfl⟩⟩,(vQ _ _).alloc (bQ _) _⟩
 case round=>
  obtain⟨k,pre,x,hk,rfl,Ey,iD,hown,hB⟩:=hrel;obtain⟨g,cap,rfl⟩:=ownsRow_succ hown;have ap:=hB.size;have HB:=jq hB;have HO:=jq hown;have HS:=jq Ey;clear hB hown Ey;by_cases aa:k<s.size
  ·have hb:=zg s[k];have O3:=J3 s k aa;have HT:=jq O3;clear O3;by_cases AH:(s[k].toNat:Int)=46
   ·have he:((s[k].toNat:Int) == 46)=true:=by simp[AH]
    have hc:s[k]=46:=by
     apply UInt8.toNat_inj.1
     have:s[k].toNat=46:=by omega
     rw[this];rfl
    have HC:=jq hc;clear hc AH;go_wp2_with (at_builtin;refine wpList_append_own_at _ rfl _ _ 116 rfl w.heap.size 9 i0 (.string ⟨#[]⟩) 1 16 underlying116 hi dZ bh aM rfl (by decide) _ _ _ rfl (HO.out.alloc _) ⟨wr.heap.size,0,none⟩ 1 1 [.string ⟨#[]⟩] rfl rfl (cell_one_new _ _ _) (by simp[Value.oneCell']) (by unfold maxLen;omega) (by omega) (by simp;omega) ?_;intro v1 w1 OK tr _ WZ;have H1:=jq (And.intro OK tr);clear OK tr WZ);go_roundw
    case rel=>
     obtain⟨o1,g1⟩:=H1.out;have mT:=(HO.out.lt g rfl).1;refine⟨k+1,pre ++ [x],[],by omega,by go_num,?_,by simp;omega,?_,?_⟩
     ·rw[HT.out,HC.out,aAK,HS.out]
     ·simpa using o1
     ·exact (HB.out.alloc (by omega) _).grown g1 (by simp;omega) (λj hj=>by have e:g=j:=Option.some.inj hj;omega)
    case measure=>simp[intOf] <;> omega
   ·have he:((s[k].toNat:Int) == 46)=false:=by simp[AH]
    have hc:s[k]≠46:=λe=>AH (by rw[e];rfl);have HC:=jq hc;clear hc AH;obtain⟨q1,q2,q3,q4,q5⟩:=ahJ HO.out pre.length (by omega) (aD (x ++ [s[k]]));have hcell:wr.cell? ⟨g,pre.length,none⟩=some (aD x):=by rw[q1];simp
    have GQ:=jq q5;have nR:=aBK x s k aa;clear q1 q5;have tV:x.length<=k:=by
     have h1:=Np.JY (l:=s.data.toList.take k) (y:=x) (by rw[HS.out];simp);rw[List.length_take] at h1;omega
    have gl:¬ 9223372036854775807<x.length+(min (k+1) s.size - k):=by omega
    have aj:IntKind.i64.wrap (pre.length:Int)=pre.length:=IntWalk.i64_in _ (by omega);have ae:IntKind.i64.wrap ((k:Int)+1)=k+1:=IntWalk.i64_in _ (by omega);have yz:(0:Int)<=(pre.length:Int):=by omega
    have hp1:(pre.length:Int)<(pre.length:Int)+1:=by omega
    have bX:(0:Int)<=(k:Int):=by omega
    have bW:(k:Int)+1<=(s.size:Int):=by omega
    have jw:((k:Int)+1).toNat=k+1:=by omega
    have l6:(0:Int)<=(k:Int)+1:=by omega
    have jx:(k:Int)<=(k:Int)+1:=by omega
    go_wp2_with fail;refine RV 17 (by kernel_rfl) (by kernel_rfl) ?_;simp only[List.take_succ_cons,List.take_zero,List.drop_succ_cons,List.drop_zero]
    iterate 17 still_step
    refine wpStill_nil ?_;go_wp2_with fail;go_roundw
    case rel=>
     refine⟨k+1,pre,x ++ [s[k]],by omega,by go_num,?_,by omega,?_,?_⟩
     ·rw[HT.out];exact aAX _ _ _ _ HC.out HS.out
     ·have h5:(wr.setCell ⟨g,pre.length,none⟩ (aD (x ++ [s[k]]))).ownsRow w.heap.size 9 1 (.slice (some ⟨g,0,none⟩) (pre.length+1) cap) (pre.length+1) (pre.map aD ++ [aD (x ++ [s[k]])]):=by
       have:=GQ.out
       simpa using this
      exact h5
     ·exact (HB.out.setCell (p:=⟨g,pre.length,none⟩) q4 _).drew
    case measure=>simp[intOf] <;> omega
  ·go_wp2_with fail;go_ret;refine⟨_,rfl,?_,HB.out⟩;have aA:Np.aW s.data.toList=pre ++ [x]:=by have:=HS.out;rwa [Ff s k (by omega)] at this
   rw[aA];refine JV (sz:=1) (e:=9) (base:=w.heap.size) (λx=>[aD x]) (λ_ _=>rfl) ?_ (by simp;omega) (λ_ _=>rfl)
   have:=HO.out
   simpa [PR] using this
theorem azZ{α:Type}{R:World->Nat->List Value->α->Prop}{sz:Nat}(w:World)(B:Nat):SlR R sz w B (.slice none 0 0) []:=⟨none,0,rfl,by simp,by simp,λi x h=>by simp at h⟩
theorem Cw(s:ByteArray)(hs:s.size<=1000000)(w:World):Calls prog 233 #[.string s] w (xk RSt 1 w (Np.ek s.data.toList)):=by
 by_cases h:s.data.toList = [46]
 ·have he:(s.toList == [46])=true:=by rw[dQ,h];rfl
  have hp:Np.ek s.data.toList = []:=by rw[Np.ek,Qb h]
  rw[hp];clear h hp;go_enter func233,ntmps233;go_wp2_with fail;go_ret;exact⟨_,rfl,azZ _ _,vQ _ _⟩
 ·have he:(s.toList == [46])=false:=by rw[dQ];simpa using h
  have hp:Np.ek s.data.toList=Np.aW s.data.toList:=by rw[Np.ek,Qc h]
  rw[hp];clear h hp;go_enter func233,ntmps233;go_wp2_with fail;refine (QO s hs _).mono ?_;rintro e w1 ⟨v,rfl,hv,hb⟩;have HV:=jq (And.intro hv hb);clear hv hb;go_wp2_with fail;go_ret;exact⟨_,rfl,HV.out⟩
theorem CB{w:World}{B:Nat}{v:Value}{xs:List (List UInt8)}(h:SlR RSt 1 w B v xs){k:Nat}{x:List UInt8}(hx:xs[k]?=some x):∃ b o c,v = .slice (some ⟨b,o,none⟩) xs.length c/\b<B/\xs.length<=c/\w.cell? ⟨b,o+k,none⟩=some (aD x):=by
 obtain⟨A,c,rfl,hc,_,he⟩:=h;obtain⟨b,o,e,rfl,hb,_,hce,rfl⟩:=he k x hx;exact⟨b,o,c,rfl,hb,hc,by have:=hce 0 _ rfl;simpa using this⟩
end
section
open Go.RowKit Go.MapKept
def cI(r:Nat)(kvs:List (List UInt8×Value))(w:World):Prop:=∃ es c,w.heap[r]?=some (.map es c)/\es.toList.map (λe=>(e.key,e.val))=kvs.map λp=>(aD p.1,p.2)
theorem cI.lt{r:Nat}{kvs:List (List UInt8×Value)}{w:World}(h:cI r kvs w):r<w.heap.size:=by
 obtain⟨es,c,h,_⟩:=h;exact (eQ.1 h).1
theorem cI.keep{r:Nat}{kvs:List (List UInt8×Value)}{w w':World}{n:Nat}(h:cI r kvs w)(hb:Below n w w')(hn:r<n):cI r kvs w':=by
 obtain⟨es,c,h,h2⟩:=h;exact⟨es,c,(hb.block r hn).trans h,h2⟩
theorem cI.made(w:World):cI w.heap.size [] (w.alloc (.map #[] 0)):=⟨#[],0,heap_alloc_new _ _,rfl⟩
theorem Rn(x y:List UInt8):((⟨x.toArray⟩:ByteArray) == ⟨y.toArray⟩)=(x == y):=by
 have h:((⟨x.toArray⟩:ByteArray) == ⟨y.toArray⟩)=(x.toArray == y.toArray):=rfl;rw[h,List.beq_toArray]
theorem DJ(x:List UInt8):∀ (es:List MapEntry) (kvs:List (List UInt8×Value)) (i:Nat),es.map (λe=>(e.key,e.val))=kvs.map (λp=>(aD p.1,p.2))->
 (∀ v,kvs.lookup x=some v->∃ j,Instr.findNow .string (aD x) es i=some (some (j,v)))/\(kvs.lookup x=none->Instr.findNow .string (aD x) es i=some none):=by
 intro es
 induction es with
 | nil=>
  intro kvs i h
  cases kvs with
  | nil=>exact⟨λv hv=>by simp at hv,λ_=>rfl⟩
  | cons=>simp at h
 | cons e es ih=>
  intro kvs i h
  cases kvs with
  | nil=>simp at h
  | cons p kvs=>
   obtain⟨y,u⟩:=p;simp only[List.map_cons,List.cons.injEq,Prod.mk.injEq] at h;obtain⟨⟨h1,h2⟩,h3⟩:=h;have hs:Instr.sameNow .string (aD x) e.key=some (x == y):=by rw[h1];simp only[Instr.sameNow];rw[Rn]
   by_cases b7:x=y
   ·subst b7;have hb:(x == x)=true:=by simp
    rw[hb] at hs;refine⟨λv hv=>⟨i,?_⟩,λhv=>?_⟩
    ·rw[List.lookup_cons_self] at hv;simp only[Instr.findNow,hs]
     cases hv
     rw[h2]
    ·rw[List.lookup_cons_self] at hv;cases hv
   ·have hb:(x == y)=false:=by simpa using b7
    rw[hb] at hs;have hl:((y,u)::kvs).lookup x=kvs.lookup x:=by rw[List.lookup_cons,hb]
    rw[hl];obtain⟨i1,i2⟩:=ih kvs (i+1) h3;refine⟨λv hv=>?_,λhv=>?_⟩
    ·obtain⟨j,hj⟩:=i1 v hv;exact⟨j,by simp only[Instr.findNow,hs];exact hj⟩
    ·simp only[Instr.findNow,hs];exact i2 hv
section
variable {P:Program} {ops:Array Oper} {rest:List Oper} {o:Oper} {a:Act} {Q:Exit->Act->World->Prop}
theorem RS(w:World)(hg:o.guard=none)(m x v:Operand)(t:TypeId)(jz:o.op=Op.mapUpdate t m x v)(kt et:TypeId)(ht:P.underlying t=some (.map kt et))(hk:P.underlying kt=some .string)
 (r:Nat) (kvs:List (List UInt8×Value)) (hm:a.eval m = .map (some r)) (hr:cI r kvs w) (key:List UInt8) (hx:a.eval x=aD key) (val:Value) (hv:a.eval v=val) (gl:kvs.lookup key=none)
 (hK:∀ w',cI r (kvs ++ [(key,val)]) w'->Turned r w w'->wpList P ops Q rest (a.put o.dst undef) w'):wpList P ops Q (o::rest) a w:=by
 obtain⟨es,c,hr,he⟩:=hr;have hf:=(DJ key es.toList kvs 0 he).2 gl;refine wpList_plain hg λK' hK'=>?_;have hc:(Instr.checkKey false 10000 kt (aD key)).run P w = .ok () w:=MapKept.run_checkKey (k:=aD key) hk (by simp[MapKept.IsKey]) false 9999;have cU:(Instr.mapUpdate t (.map (some r)) (aD key) val).run P w = .ok () { w with heap:=w.heap.setIfInBounds r (.map (es.push { key:=aD key,val:=val,born:=c }) (c+1)) }:=by
  simp[Instr.mapUpdate,run_underlying ht,MapKept.run_getObj_map hr,hc,MapKept.run_findKey hk hf,MapKept.run_setObj_map _ hr,Result.andThen]
 unfold Oper.wp;simp[execOp,jz,hm,hx,hv,cU,Result.andThen];have hl:r<w.heap.size:=(eQ.1 hr).1;refine hK' _ _ (hK _ ⟨_,_,by simp[hl];exact⟨rfl,rfl⟩,by simp[he]⟩ ⟨rfl,rfl,rfl,by simp,λi hi=>by simp[Ne.symm hi]⟩)
theorem Fc(w:World)(t kt et:TypeId)(ht:P.underlying t=some (.map kt et))(hk:P.underlying kt=some .string)(r:Nat)(kvs:List (List UInt8×Value))(hr:cI r kvs w)(key:List UInt8)(z:Value)(hz:(zeroValue et).run P w = .ok z w) :
 (Instr.lookup t (.map (some r)) (aD key) false).run P w = .ok ((kvs.lookup key).getD z) w:=by
 obtain⟨es,c,hr,he⟩:=hr;have hf:=DJ key es.toList kvs 0 he;have hc:∀ b,(Instr.checkKey b 10000 kt (aD key)).run P w = .ok () w:=λb=>MapKept.run_checkKey (k:=aD key) hk (by simp[MapKept.IsKey]) b 9999
 cases hl:kvs.lookup key with
 | none=>simp[Instr.lookup,run_underlying ht,MapKept.run_getObj_map hr,hc,MapKept.run_findKey hk (hf.2 hl),Result.andThen,hz]
 | some v=>
  obtain⟨j,hj⟩:=hf.1 v hl;simp[Instr.lookup,run_underlying ht,MapKept.run_getObj_map hr,hc,MapKept.run_findKey hk hj,Result.andThen]
end
def mE(r:Nat)(kvs:List (Int×Value))(w:World):Prop:=∃ es c,w.heap[r]?=some (.map es c)/\es.toList.map (λe=>(e.key,e.val))=kvs.map λp=>(Value.int .i64 p.1,p.2)
theorem mE.lt{r:Nat}{kvs:List (Int×Value)}{w:World}(h:mE r kvs w):r<w.heap.size:=by
 obtain⟨es,c,h,_⟩:=h;exact (eQ.1 h).1
theorem mE.keep{r:Nat}{kvs:List (Int×Value)}{w w':World}{n:Nat}(h:mE r kvs w)(hb:Below n w w')(hn:r<n):mE r kvs w':=by
 obtain⟨es,c,h,h2⟩:=h;exact⟨es,c,(hb.block r hn).trans h,h2⟩
theorem mE.made(w:World):mE w.heap.size [] (w.alloc (.map #[] 0)):=⟨#[],0,heap_alloc_new _ _,rfl⟩
theorem M5(x:Int):∀ (es:List MapEntry) (kvs:List (Int×Value)) (i:Nat),es.map (λe=>(e.key,e.val))=kvs.map (λp=>(Value.int .i64 p.1,p.2))->
 (∀ v,kvs.lookup x=some v->∃ j,Instr.findNow (.int .i64) (.int .i64 x) es i=some (some (j,v)))/\(kvs.lookup x=none->Instr.findNow (.int .i64) (.int .i64 x) es i=some none):=by
 intro es
 induction es with
 | nil=>
  intro kvs i h
  cases kvs with
  | nil=>exact⟨λv hv=>by simp at hv,λ_=>rfl⟩
  | cons=>simp at h
 | cons e es ih=>
  intro kvs i h
  cases kvs with
  | nil=>simp at h
  | cons p kvs=>
   obtain⟨y,u⟩:=p;simp only[List.map_cons,List.cons.injEq,Prod.mk.injEq] at h;obtain⟨⟨h1,h2⟩,h3⟩:=h;have hs:Instr.sameNow (.int .i64) (.int .i64 x) e.key=some (x == y):=by rw[h1];simp[Instr.sameNow]
   by_cases b7:x=y
   ·subst b7;have hb:(x == x)=true:=by simp
    rw[hb] at hs;refine⟨λv hv=>⟨i,?_⟩,λhv=>?_⟩
    ·rw[List.lookup_cons_self] at hv;simp only[Instr.findNow,hs]
     cases hv
     rw[h2]
    ·rw[List.lookup_cons_self] at hv;cases hv
   ·have hb:(x == y)=false:=by simpa using b7
    rw[hb] at hs;have hl:((y,u)::kvs).lookup x=kvs.lookup x:=by rw[List.lookup_cons,hb]
    rw[hl];obtain⟨i1,i2⟩:=ih kvs (i+1) h3;refine⟨λv hv=>?_,λhv=>?_⟩
    ·obtain⟨j,hj⟩:=i1 v hv;exact⟨j,by simp only[Instr.findNow,hs];exact hj⟩
    ·simp only[Instr.findNow,hs];exact i2 hv
section
variable {P:Program} {ops:Array Oper} {rest:List Oper} {o:Oper} {a:Act} {Q:Exit->Act->World->Prop}
theorem aLZ(w:World)(hg:o.guard=none)(m x v:Operand)(t:TypeId)(jz:o.op=Op.mapUpdate t m x v)(kt et:TypeId)(ht:P.underlying t=some (.map kt et))(hk:P.underlying kt=some (.int .i64))
 (r:Nat) (kvs:List (Int×Value)) (hm:a.eval m = .map (some r)) (hr:mE r kvs w) (key:Int) (hx:a.eval x = .int .i64 key) (val:Value) (hv:a.eval v=val) (gl:kvs.lookup key=none)
 (hK:∀ w',mE r (kvs ++ [(key,val)]) w'->Turned r w w'->wpList P ops Q rest (a.put o.dst undef) w'):wpList P ops Q (o::rest) a w:=by
 obtain⟨es,c,hr,he⟩:=hr;have hf:=(M5 key es.toList kvs 0 he).2 gl;refine wpList_plain hg λK' hK'=>?_;have hc:(Instr.checkKey false 10000 kt (.int .i64 key)).run P w = .ok () w:=MapKept.run_checkKey (k:=.int .i64 key) hk (by simp[MapKept.IsKey]) false 9999;have cU:(Instr.mapUpdate t (.map (some r)) (.int .i64 key) val).run P w = .ok () { w with heap:=w.heap.setIfInBounds r (.map (es.push { key:=.int .i64 key,val:=val,born:=c }) (c+1)) }:=by
  simp[Instr.mapUpdate,run_underlying ht,MapKept.run_getObj_map hr,hc,MapKept.run_findKey hk hf,MapKept.run_setObj_map _ hr,Result.andThen]
 unfold Oper.wp;simp[execOp,jz,hm,hx,hv,cU,Result.andThen];have hl:r<w.heap.size:=(eQ.1 hr).1;refine hK' _ _ (hK _ ⟨_,_,by simp[hl];exact⟨rfl,rfl⟩,by simp[he]⟩ ⟨rfl,rfl,rfl,by simp,λi hi=>by simp[Ne.symm hi]⟩)
theorem avY(w:World)(t kt et:TypeId)(ht:P.underlying t=some (.map kt et))(hk:P.underlying kt=some (.int .i64))(r:Nat)(kvs:List (Int×Value))(hr:mE r kvs w)(key:Int)(z:Value)(hz:(zeroValue et).run P w = .ok z w) :
 (Instr.lookup t (.map (some r)) (.int .i64 key) false).run P w = .ok ((kvs.lookup key).getD z) w:=by
 obtain⟨es,c,hr,he⟩:=hr;have hf:=M5 key es.toList kvs 0 he;have hc:∀ b,(Instr.checkKey b 10000 kt (.int .i64 key)).run P w = .ok () w:=λb=>MapKept.run_checkKey (k:=.int .i64 key) hk (by simp[MapKept.IsKey]) b 9999
 cases hl:kvs.lookup key with
 | none=>simp[Instr.lookup,run_underlying ht,MapKept.run_getObj_map hr,hc,MapKept.run_findKey hk (hf.2 hl),Result.andThen,hz]
 | some v=>
  obtain⟨j,hj⟩:=hf.1 v hl;simp[Instr.lookup,run_underlying ht,MapKept.run_getObj_map hr,hc,MapKept.run_findKey hk hj,Result.andThen]
end
def pP(p:Int×List UInt8):Value:=.agg #[.int .i64 p.1,aD p.2]
def jj(r:Nat)(kvs:List ((Int×List UInt8)×Value))(w:World):Prop:=∃ es,w.heap[r]?=some (.map es es.size)/\es.toList.map (λe=>(e.key,e.val))=kvs.map (λp=>(pP p.1,p.2))/\∀ (i:Nat) (e:MapEntry),es[i]?=some e->e.born=i
theorem jj.lt{r:Nat}{kvs:List ((Int×List UInt8)×Value)}{w:World}(h:jj r kvs w):r<w.heap.size:=by
 obtain⟨es,h,_⟩:=h;exact (eQ.1 h).1
theorem jj.keep{r:Nat}{kvs:List ((Int×List UInt8)×Value)}{w w':World}{n:Nat}(h:jj r kvs w)(hb:Below n w w')(hn:r<n):jj r kvs w':=by
 obtain⟨es,h,h2⟩:=h;exact⟨es,(hb.block r hn).trans h,h2⟩
theorem jj.keep'{r:Nat}{kvs:List ((Int×List UInt8)×Value)}{w w':World}(h:jj r kvs w)(hb:w'.heap[r]?=w.heap[r]?):jj r kvs w':=by
 obtain⟨es,h,h2⟩:=h;exact⟨es,hb.trans h,h2⟩
theorem jj.made(w:World):jj w.heap.size [] (w.alloc (.map #[] 0)):=⟨#[],heap_alloc_new _ _,rfl,λi e h=>by simp at h⟩
theorem V0(p q:Int×List UInt8)(w:World):(Op.equal 301 (pP p) (pP q)).run prog w = .ok (decide (p=q)) w:=by
 obtain⟨n,a⟩:=p;obtain⟨m,b⟩:=q;have u3:=underlying3;have a3:=isAgg3;have z3:=sizeOf3;have u9:=underlying9;have a9:=isAgg9;have z9:=sizeOf9;have hS:prog.underlying 301=some (.struct (prog.fieldsOf 301)):=by kernel_rfl
 have hp:prog.stoodInHeld 301=false:=by kernel_rfl
 show (Op.equalIn 10000 301 (.agg #[.int .i64 n,.string ⟨a.toArray⟩]) (.agg #[.int .i64 m,.string ⟨b.toArray⟩])).run prog w=_;rw[show (10000:Nat)=9999+1 from rfl,run_equalIn_agg w 9999 301 _ _ hS hp];simp only[Program.fieldsOf,underlying301];go_simp;by_cases h0:a=b <;> by_cases h1:n=m <;> simp[h0,h1]
theorem My(b:Bool)(p:Int×List UInt8)(w:World):(Instr.checkKey b 10000 301 (pP p)).run prog w = .ok () w:=by
 have hS:=underlying301;have hs:∀ s w,(Instr.checkKey b 9999 9 (.string s)).run prog w = .ok () w:=λs w=>MapKept.run_checkKey (k:=.string s) underlying9 (by simp[MapKept.IsKey]) b 9998;have hi:∀ n w,(Instr.checkKey b 9999 3 (.int .i64 n)).run prog w = .ok () w:=λn w=>MapKept.run_checkKey (k:=.int .i64 n) underlying3 (by simp[MapKept.IsKey]) b 9998;have a3:=isAgg3;have z3:=sizeOf3;have a9:=isAgg9;have z9:=sizeOf9;rw[show (10000:Nat)=9999+1 from rfl,Instr.checkKey];simp only[pP,aD];simp[run_underlying hS,go_sem,Result.andThen,hs,hi]
theorem Wb{fs:Array Field}{k:Value}{e:MapEntry}{es:List MapEntry}(i:Nat):Instr.findNow (.struct fs) k (e::es) i=none:=by
 simp only[Instr.findNow];rfl
theorem Mn(p:Int×List UInt8)(w:World):∀ (es:List MapEntry) (kvs:List ((Int×List UInt8)×Value)) (i:Nat),es.map (λe=>(e.key,e.val))=kvs.map (λq=>(pP q.1,q.2))->
 (∀ v,kvs.lookup p=some v->∃ j,(es[j]?).map (λe=>(e.key,e.val))=some (pP p,v)/\kvs[j]?=some (p,v)/\(Instr.findAsking 301 (pP p) es i).run prog w = .ok (some (i+j,v)) w)/\(kvs.lookup p=none->(Instr.findAsking 301 (pP p) es i).run prog w = .ok none w)
 | [],kvs,i,h=>by
   cases kvs with
   | nil=>exact⟨λv h=>by simp at h,λ_=>by rw[Instr.findAsking];rfl⟩
   | cons=>simp at h
 | e::es,kvs,i,h=>by
   cases kvs with
   | nil=>simp at h
   | cons q kvs=>
    obtain⟨q,u⟩:=q;simp only[List.map_cons,List.cons.injEq,Prod.mk.injEq] at h;obtain⟨⟨h1,h2⟩,h3⟩:=h;obtain⟨i1,i2⟩:=Mn p w es kvs (i+1) h3;have hq:=V0 p q w;rw[<-h1] at hq;by_cases rJ:p=q
    ·have hd:decide (p=q)=true:=by simpa using rJ
     rw[hd] at hq;have hr:(Instr.findAsking 301 (pP p) (e::es) i).run prog w = .ok (some (i,u)) w:=by
      rw[Instr.findAsking];simp[hq,h2]
     subst rJ;refine⟨λv hv=>⟨0,?_,?_,?_⟩,λhn=>?_⟩
     ·rw[List.lookup_cons_self] at hv;cases hv;simp[h1,h2]
     ·rw[List.lookup_cons_self] at hv;cases hv;rfl
     ·rw[List.lookup_cons_self] at hv;cases hv;exact hr
     ·rw[List.lookup_cons_self] at hn;cases hn
    ·have hd:decide (p=q)=false:=by simpa using rJ
     rw[hd] at hq;have hb:(p == q)=false:=by simpa using rJ
     have hr:(Instr.findAsking 301 (pP p) (e::es) i).run prog w=(Instr.findAsking 301 (pP p) es (i+1)).run prog w:=by
      rw[Instr.findAsking];simp[hq]
     have hl:((q,u)::kvs).lookup p=kvs.lookup p:=by rw[List.lookup_cons,hb]
     rw[hr,hl];refine⟨λv hv=>?_,i2⟩;obtain⟨j,j1,j2,j3⟩:=i1 v hv;exact⟨j+1,by simpa using j1,by simpa using j2,by rw[show i+(j+1)=i+1+j by omega];exact j3⟩
theorem M6(p:Int×List UInt8)(w:World)(es:List MapEntry)(kvs:List ((Int×List UInt8)×Value))(h:es.map (λe=>(e.key,e.val))=kvs.map (λq=>(pP q.1,q.2))) :
 (∀ v,kvs.lookup p=some v->∃ j,(es[j]?).map (λe=>(e.key,e.val))=some (pP p,v)/\kvs[j]?=some (p,v)/\(Instr.findKey 301 (pP p) es).run prog w = .ok (some (j,v)) w)/\(kvs.lookup p=none->(Instr.findKey 301 (pP p) es).run prog w = .ok none w):=by
 have hS:=underlying301
 cases es with
 | nil=>
  cases kvs with
  | nil=>exact⟨λv h=>by simp at h,λ_=>by simp[Instr.findKey,run_underlying hS,Instr.findNow]⟩
  | cons=>simp at h
 | cons e es=>
  obtain⟨i1,i2⟩:=Mn p w (e::es) kvs 0 h;have hr:(Instr.findKey 301 (pP p) (e::es)).run prog w=(Instr.findAsking 301 (pP p) (e::es) 0).run prog w:=by
   simp[Instr.findKey,run_underlying hS,Wb]
  rw[hr];refine⟨λv hv=>?_,i2⟩;obtain⟨j,j1,j2,j3⟩:=i1 v hv;exact⟨j,j1,j2,by rw[j3,Nat.zero_add]⟩
theorem avX(w:World)(t et:TypeId)(ht:prog.underlying t=some (.map 301 et))(r:Nat)(kvs:List ((Int×List UInt8)×Value))(hr:jj r kvs w)(p:Int×List UInt8)(z:Value)(hz:(zeroValue et).run prog w = .ok z w) :
 (Instr.lookup t (.map (some r)) (pP p) false).run prog w = .ok ((kvs.lookup p).getD z) w:=by
 obtain⟨es,hr,he,_⟩:=hr;have hf:=M6 p w es.toList kvs he;have hc:∀ b,(Instr.checkKey b 10000 301 (pP p)).run prog w = .ok () w:=λb=>My b p w
 cases hl:kvs.lookup p with
 | none=>simp[Instr.lookup,run_underlying ht,MapKept.run_getObj_map hr,hc,hf.2 hl,Result.andThen,hz]
 | some v=>
  obtain⟨j,_,_,hj⟩:=hf.1 v hl;simp[Instr.lookup,run_underlying ht,MapKept.run_getObj_map hr,hc,hj,Result.andThen]
theorem aLQ{ops:Array Oper}{rest:List Oper}{o:Oper}{a:Act}{Q:Exit->Act->World->Prop}(w:World)(hg:o.guard=none)(m x v:Operand)(t:TypeId)(jz:o.op=Op.mapUpdate t m x v)(et:TypeId)(ht:prog.underlying t=some (.map 301 et))
 (r:Nat) (kvs:List ((Int×List UInt8)×Value)) (hm:a.eval m = .map (some r)) (hr:jj r kvs w) (p:Int×List UInt8) (hx:a.eval x=pP p) (val:Value) (hv:a.eval v=val) (gl:kvs.lookup p=none)
 (hK:∀ w',jj r (kvs ++ [(p,val)]) w'->Turned r w w'->wpList prog ops Q rest (a.put o.dst undef) w'):wpList prog ops Q (o::rest) a w:=by
 obtain⟨es,hr,he,kE⟩:=hr;have hf:=(M6 p w es.toList kvs he).2 gl;refine wpList_plain hg λK' hK'=>?_;have hc:(Instr.checkKey false 10000 301 (pP p)).run prog w = .ok () w:=My false p w;have cU:(Instr.mapUpdate t (.map (some r)) (pP p) val).run prog w = .ok () { w with heap:=w.heap.setIfInBounds r (.map (es.push { key:=pP p,val:=val,born:=es.size }) (es.size+1)) }:=by
  simp[Instr.mapUpdate,run_underlying ht,MapKept.run_getObj_map hr,hc,hf,MapKept.run_setObj_map _ hr,Result.andThen]
 unfold Oper.wp;simp[execOp,jz,hm,hx,hv,cU,Result.andThen];have hl:r<w.heap.size:=(eQ.1 hr).1;refine hK' _ _ (hK _ ⟨es.push { key:=pP p,val:=val,born:=es.size },by simp[hl],by simp[he],λi e hi=>?_⟩ ⟨rfl,rfl,rfl,by simp,λi hi=>by simp[Ne.symm hi]⟩);rw[Array.getElem?_push] at hi;split at hi
 ·rename_i h1;cases hi;exact h1.symm
 ·exact kE i e hi
end
end Go.Proofs.YtfnopgdcaanaiaaGreatDoor
