/- Parts of the proof. No condition. -/
import Derived.Laws.EntriesVeiled
import Derived.Test.YtbfbobfbgabjiaaGreatDoorP02
import Derived.Test.YtbfbobfbgabjiaaGreatDoorP03
import Derived.Test.YtbfbobfbgabjiaaGreatDoorP04
import Derived.Test.YtbfbobfbgabjiaaGreatDoorP05
set_option linter.all false
set_option maxRecDepth 100000
set_option maxHeartbeats 8000000
namespace Go.Proofs.YtbfbobfbgabjiaaGreatDoor
open Go.Proofs.Tryz
namespace Np
structure Zone where
 apex:List UInt8
 sets:List Signed
deriving DecidableEq
def ni:List (List UInt8)->List (List UInt8)->Int
 | [],_=>-1
 | _::_,[]=>1
 | x::xs,y::ys=>if cF x y≠0 then cF x y else ni xs ys
def aI(a b:List UInt8):Int:=if a=b then 0 else ni (aS a) (aS b)
def gK(a b:DSet):Int:=if a.name≠b.name then aI a.name b.name else cJ a.type b.type
def bp(s z:List UInt8):Bool:=s == z||z == [46]||(decide (z.length<s.length)&&(s.drop (s.length - z.length) == z)&&(s[s.length - z.length - 1]? == some 46))
def jU(apex:List UInt8):Option DSet->List Signed->Bool
 | _,[]=>true
 | p,x::r=>(aD x.set.name&&bp x.set.name apex)&&dX x.set&&(match p with | none=>true | some q=>decide (gK q x.set<0))&&jU apex (some x.set) r
def eN(z:Zone):Bool:=aD z.apex&&!eK z.apex&&jU z.apex none z.sets
theorem NW:∀ (xs:List (List UInt8)) (n:Nat) (w:Bool),fp xs n w=true->∀ x∈xs,x = [42]\/cw x=true:=by
 intro xs
 induction xs with
 | nil=>intro _ _ _ x h; cases h
 | cons y xs ih=>
  intro n w h x hx;rw[fp] at h;split at h
  ·cases h
  ·split at h
   ·rename_i hy;rcases List.mem_cons.1 hx with rfl | hx
    ·exact .inl hy
    ·exact ih _ _ h x hx
   ·split at h
    ·rename_i hy;rcases List.mem_cons.1 hx with rfl | hx
     ·exact .inr hy
     ·exact ih _ _ h x hx
    ·cases h
theorem IH{r:Rule} : ∀ {ds:List Datum} {p:Option Datum},jo r p ds=true->∀ d∈ds,kj r d=true
 | [],_,_,d,h=>by cases h
 | e::ds,p,h,d,hd=>by
   simp only[jo,Bool.and_eq_true] at h;rcases List.mem_cons.1 hd with rfl | hd
   ·exact h.1.1
   ·exact IH h.2 d hd
theorem zq{s:DSet}(h:dX s=true):aD s.name=true/\1<=s.type/\s.type<=8/\0<=s.life/\s.life<=100000/\1<=s.data.length/\s.data.length<=8/\jo (bX s.type) none s.data=true:=by
 unfold dX at h;simp only[Bool.and_eq_true,Qa] at h;obtain⟨⟨⟨⟨⟨⟨h1,h2,h3⟩,h4,h5⟩,h6,h7⟩,_⟩,_⟩,h8⟩:=h;exact⟨h1,h2,h3,h4,h5,h6,h7,h8⟩
theorem DT{apex:List UInt8} : ∀ {l:List Signed} {p:Option DSet},jU apex p l=true->∀ x∈l,dX x.set=true
 | [],_,_,x,h=>by cases h
 | y::l,p,h,x,hx=>by
   simp only[jU,Bool.and_eq_true] at h;rcases List.mem_cons.1 hx with rfl | hx
   ·exact h.1.1.2
   ·exact DT h.2 x hx
end Np
namespace D
open Go.RowKit Go.Shelf
attribute [local go_sem] Oper.semAt_some
def rE(W:World)(lm lr:Nat)(rem:List (List UInt8)):Prop:=
 ∃ (more:Bool) (r:ByteArray),Boxed W lm 4 (.bool more)/\Boxed W lr 9 (.string r)/\r.size<=140737488355328/\rem=if more then (Np.aR r.data.toList).reverse else []
theorem rE.it{B:Nat}{S:Nat->Prop}{W W':World}{lm lr:Nat}{rem:List (List UInt8)}(h:rE W lm lr rem)(hs:ItStep B S W W')(h1:S lm)(h2:S lr):rE W' lm lr rem:=by
 obtain⟨more,r,b1,b2,h3,h4⟩:=h;exact⟨more,r,ko b1 hs h1,ko b2 hs h2,h3,h4⟩
def Ic(W:World)(lm lr:Nat)(rem:List (List UInt8))(e:Ending)(W':World):Prop:=
 (rem = []/\e = .returned (.tuple #[.string ⟨#[]⟩,.bool false])/\W'=W)\/
 ∃ x rest,rem=x::rest/\e = .returned (.tuple #[aA x,.bool true])/\rE W' lm lr rest/\∃ b u,(b=lm\/b=lr)/\W'=W.setCell ⟨b,0,none⟩ u
theorem akJ(lm lr:Nat)(hne:lm≠lr)(rem:List (List UInt8))(w:World)(h:rE w lm lr rem) :
 Calls prog 159 #[.pointer (some ⟨lm,0,none⟩),.pointer (some ⟨lr,0,none⟩)] w (Ic w lm lr rem):=by
 obtain⟨more,r,b1,b2,h3,h4⟩:=h;have HR:=jq h4;clear h4;have c1:=b1.cell;have c2:=b2.cell;have f1:=b1.frozen;have f2:=b2.frozen
 cases more with
 | false=>
  go_enter func159,ntmps159;go_wp2_with fail;refine bodyPost_ret (v:=.tuple #[.string ⟨#[]⟩,.bool false]) (by simp[results,results159,go_sem]) rfl ?_;exact .inl ⟨HR.out,rfl,rfl⟩
 | true=>
  go_enter func159,ntmps159;go_wp2_with fail;refine (Km _ h3 _ (by decide) (by decide) _).mono ?_;rintro e w' ⟨q,hq,rfl,rfl⟩;rcases hq with ⟨rfl,ig⟩ | ⟨a,b,gL,tW,rfl⟩
  ·have aX:Np.aR r.data.toList = [r.data.toList]:=Np.zj ig;have HS:=jq aX;clear aX ig;go_wp2_with fail;refine bodyPost_ret (v:=.tuple #[.string r,.bool true]) (by simp[results,results159,go_sem]) rfl ?_;refine .inr ⟨r.data.toList,[],by rw[HR.out,Qb trivial,HS.out]; rfl,rfl,⟨false,r,b1.set _,eR b2 (by simpa using hne.symm) _,h3,rfl⟩,lm,_,.inl rfl,rfl⟩
  ·have kH:a.length+1+b.length=r.size:=by rw[<-aT,gL]; simp; omega
   have aX:Np.aR r.data.toList=Np.aR a ++ [b]:=by rw[gL]; exact (Np.CK a b).trans (by rw[Np.zj tW])
   have jz:(r.extract (a.length+1) r.size).data.toList=b:=by rw[DN,gL]; simp
   have qP:(r.extract 0 a.length).data.toList=a:=by rw[DO,gL]; simp
   have US:Hid (r.extract (a.length+1) r.size=⟨b.toArray⟩):=jq (iM (by rw[jz]));have MI:=jq qP;have HS:=jq aX;clear aX jz qP gL tW;have ia:a.length<=140737488355328:=by omega
   have Om:a.length+1<=r.size:=by omega
   have aWJ:(a.length:Int)+1<=(r.size:Int):=by omega
   clear kH;go_wp2_with fail;refine bodyPost_ret (v:=.tuple #[.string (r.extract (a.length+1) r.size),.bool true]) (by simp[results,results159,go_sem]) rfl ?_;refine .inr ⟨b,(Np.aR a).reverse,by rw[HR.out,Qb trivial,HS.out]; simp,by rw[US.out],⟨true,r.extract 0 a.length,eR b1 (by simpa using hne) _,b2.set _,by rw[<-aT,MI.out]; omega,by rw[MI.out]; rfl⟩,lr,_,.inr rfl,rfl⟩
theorem asX(t:ByteArray)(ht:t.size<=140737488355328)(w:World) :
 Calls prog 97 #[.string t] w λe w'=>e = .returned (.func (.func 159) #[] #[.pointer (some ⟨w.heap.size+1,0,none⟩),.pointer (some ⟨w.heap.size,0,none⟩)])/\
  rE w' (w.heap.size+1) w.heap.size (Np.aS t.data.toList)/\Below w.heap.size w w'/\w'.heap.size=w.heap.size+2:=by
 have b0:=Boxed.new w 9 (.string t);have hb:∀ o o',Below w.heap.size w ((w.alloc o).alloc o'):=λo o'=>((vQ _ w).alloc (bQ _) _).alloc (by simp) _;by_cases he:t.data.toList = [46]
 ·have lu:(t.toList == [46])=true:=by rw[dQ,he]; rfl
  have b1:=Boxed.new (w.alloc (.cells #[.string t] 9)) 4 (.bool false);rw[World.size_alloc] at b1;have HB:Hid (Np.aS t.data.toList = []):=jq (by simp[Np.aS,he]);clear he;go_enter func97,ntmps97;go_wp2_with fail;go_ret;exact⟨rfl,⟨false,t,b1,b0.alloc _,ht,by rw[HB.out]; rfl⟩,hb _ _,by simp⟩
 ·have lu:(t.toList == [46])=false:=by rw[dQ]; simpa using he
  have b1:=Boxed.new (w.alloc (.cells #[.string t] 9)) 4 (.bool true);rw[World.size_alloc] at b1;have HB:Hid (Np.aS t.data.toList=(Np.aR t.data.toList).reverse):=jq (by simp[Np.aS,he]);clear he;go_enter func97,ntmps97;go_wp2_with fail;go_ret;exact⟨rfl,⟨true,t,b1,b0.alloc _,ht,by rw[HB.out]; rfl⟩,hb _ _,by simp⟩
theorem VQ:∀ a b:List UInt8,Lib.compareBytes a b=Np.cF a b:=by
 intro a
 induction a with
 | nil=>
  intro b
  cases b with
  | nil=>rfl
  | cons y b=>simp[Lib.compareBytes,Np.cF,Op.bytesLess]
 | cons x a ih=>
  intro b
  cases b with
  | nil=>simp[Lib.compareBytes,Np.cF,Op.bytesLess]
  | cons y b=>
   rw[Lib.compareBytes,ih b];by_cases h1:x<y
   ·simp[Np.cF,Op.bytesLess,h1]
   ·by_cases h2:y<x
    ·have h3:¬ x=y:=λe=>by subst e; exact h1 h2
     simp[Np.cF,Op.bytesLess,h1,h2,h3]
    ·have h3:x=y:=by
      apply UInt8.toNat_inj.1;simp only[UInt8.lt_iff_toNat_lt] at h1 h2;omega
     subst h3;simp[Np.cF,Op.bytesLess,h1]
theorem aHY(s t:ByteArray)(w:World) :
 Calls prog 99 #[.string s,.string t] w λe w'=>e = .returned (.int .i64 (Np.cF s.data.toList t.data.toList))/\w=w':=
 (Tryz.strings_Compare s t w).mono λe w' ⟨he,hw⟩=>⟨by rw[he,VQ],hw.symm⟩
def FV(g lm lr l8:Nat)(S:Nat->Prop):Prop:=∀ k,S k↔k=g\/k=g+1\/k=lm\/k=lr\/k=l8
def FU(w:World)(g lm lr l8:Nat)(fv:Value)(m n:List UInt8)(pre:List (List UInt8))(S:Nat->Prop)(W:World):Prop:=
 FV g lm lr l8 S/\Boxed W g 3 (.int .i64 0)/\Boxed W (g+1) 35 (.int .i64 0)/\Boxed W l8 156 fv/\
 (∃ rem,rE W lm lr rem/\∀ rest,Np.aS m=pre++rest->Np.ni (Np.aS m) (Np.aS n)=Np.ni rest rem)/\Below w.heap.size w W
def FW(w:World)(g lm lr l8:Nat)(m n:List UInt8)(c:Code)(_:List (List UInt8))(S:Nat->Prop)(W:World):Prop:=
 c = .ret/\FV g lm lr l8 S/\Boxed W g 3 (.int .i64 (Np.ni (Np.aS m) (Np.aS n)))/\Boxed W (g+1) 35 (.int .i64 0)/\Below w.heap.size w W
theorem Nh(w:World)(g lm lr l8:Nat)(fv:Value)(m n:List UInt8)(B:Nat)(hB:w.heap.size<=B):fE B (FU w g lm lr l8 fv m n):=by
 rintro s S W W' ⟨hS,h1,h2,h3,⟨rem,h4,h5⟩,h6⟩ aq;exact⟨hS,ko h1 aq ((hS _).2 (.inl rfl)),ko h2 aq ((hS _).2 (.inr (.inl rfl))),ko h3 aq ((hS _).2 (.inr (.inr (.inr (.inr rfl))))),
  ⟨rem,h4.it aq ((hS _).2 (.inr (.inr (.inl rfl)))) ((hS _).2 (.inr (.inr (.inr (.inl rfl))))),h5⟩,vF h6 aq hB (bQ _)⟩
theorem VR(w:World)(g lm lr l8:Nat)(m n:List UInt8)(B:Nat)(hB:w.heap.size<=B)(c:Code):fE B (FW w g lm lr l8 m n c):=by
 rintro s S W W' ⟨hc,hS,h1,h2,h6⟩ aq;exact⟨hc,hS,ko h1 aq ((hS _).2 (.inl rfl)),ko h2 aq ((hS _).2 (.inr (.inl rfl))),vF h6 aq hB (bQ _)⟩
theorem Ic.rd{W W':World}{lm lr:Nat}{rem:List (List UInt8)}{e:Ending}(h:Ic W lm lr rem e W'):(rem = []/\e = .returned (.tuple #[.string ⟨#[]⟩,.bool false])/\W'=W)\/
 ∃ x rest,rem=x::rest/\e = .returned (.tuple #[aA x,.bool true])/\rE W' lm lr rest/\(∀ S:Nat->Prop,S lm->S lr->RdStep S W W')/\(∀ b t v,b≠lm->b≠lr->Boxed W b t v->Boxed W' b t v)/\(∀ (n:Nat) (w:World),n<=lm->n<=lr->Below n w W->Below n w W'):=by
 rcases h with h | ⟨x,rest,h1,h2,h3,b,u,hb,rfl⟩
 ·exact .inl h
 ·refine .inr ⟨x,rest,h1,h2,h3,λS s1 s2=>?_,λb' t v n1 n2 hv=>eR hv (by rcases hb with rfl | rfl <;> assumption) _,λn w n1 n2 hB=>hB.setCell (p:=⟨b,0,none⟩) (by rcases hb with rfl | rfl <;> assumption) _⟩;exact RdStep.setCell (RdStep.refl S W) (.inl (by rcases hb with rfl | rfl <;> assumption)) _
theorem Nl{w:World}{lm lr l8:Nat}{fv:Value}{m n:List UInt8}{pre:List (List UInt8)}{S:Nat->Prop}{W W3:World}{a:Act}{v0 v1:Value}{q:Int}(hS:FV w.heap.size lm lr l8 S)
 (hr:RdStep S W W3) (aa:∀ k,S k->k<W.heap.size) (c0:Boxed W3 w.heap.size 3 v0) (c1:Boxed W3 (w.heap.size+1) 35 v1) (hB:Below w.heap.size w W3) (hv:Np.ni (Np.aS m) (Np.aS n)=q) :
 nh (FU w w.heap.size lm lr l8 fv m n) (FW w w.heap.size lm lr l8 m n) pre S W .ret a ((W3.setCell ⟨w.heap.size,0,none⟩ (.int .i64 q)).setCell ⟨w.heap.size+1,0,none⟩ (.int .i64 0)):=
 ⟨S,(hr.setCell (.inl ((hS _).2 (.inl rfl))) _).setCell (.inl ((hS _).2 (.inr (.inl rfl)))) _,λ_ e=>.inl e,λk e=>by have:=aa k e; have:=hr.size; simp[World.setCell]; omega,rfl,hS,
  by rw[hv]; exact eR (c0.set _) (by simp) _,(eR c1 (by simp) _).set _,(hB.setCell (bQ _) _).setCell (by simp) _⟩
def cmpVal(a b:List UInt8):Value:=if Np.aD a&&Np.aD b then .tuple #[.int .i64 (Np.aI a b),.int .i64 0] else .tuple #[.int .i64 0,.int .i64 11]
theorem compare_any(a b:ByteArray)(ha:a.size<=140737488355328)(hb:b.size<=140737488355328)(w:World) :
 Calls prog 53 #[.string a,.string b] w λe w'=>e = .returned (cmpVal a.data.toList b.data.toList)/\Below w.heap.size w w':=by
 refine (callsIn_wide (n:=0)).1 ?_;refine callsIn_of_wp_marks func53 rfl trivial ?_ rfl;simp only[ntmps53,List.size_toArray,List.length_cons,List.length_nil,Nat.reduceAdd,Nat.reduceSub,Array.replicate_succ,Array.replicate_zero,List.push_toArray,List.append_toArray,List.nil_append,List.cons_append];have b0:=Boxed.new w 3 (.int .i64 0);have b1:=Boxed.new (w.alloc (.cells #[.int .i64 0] 3)) 35 (.int .i64 0);rw[World.size_alloc] at b1;replace b0:=b0.alloc (.cells #[.int .i64 0] 35);have dE:Below w.heap.size w ((w.alloc (.cells #[.int .i64 0] 3)).alloc (.cells #[.int .i64 0] 35)):=((vQ _ w).alloc (bQ _) _).alloc (by simp) _;gi_wp2_with fail;refine⟨trivial,rfl,?_⟩;refine (callsIn_wide.2 (valid_any a ha _)).mono ?_;rintro e w1 ⟨rfl,ap⟩;replace b0:=eP b0 ap (by simp; omega);replace b1:=eP b1 ap (by simp);replace dE:=dE.trans (ap.mono (by simp; omega));clear ap;have rM:∀ (W:World) (tmps:Array Value),Boxed W w.heap.size 3 (.int .i64 0)->Boxed W (w.heap.size+1) 35 (.int .i64 11)->Below w.heap.size w W->(Np.aD a.data.toList&&Np.aD b.data.toList)=false->
  tmps[4]?=some (.pointer (some ⟨w.heap.size,0,none⟩))->tmps[5]?=some (.pointer (some ⟨w.heap.size+1,0,none⟩))->
  bodyPostM Fence.wide 0 prog Tryz.f53 (λe w'=>e = .returned (cmpVal a.data.toList b.data.toList)/\Below w.heap.size w w') .ret { tmps:=tmps,defers:=[] } W:=λW tmps c0 c1 hB hv t4 t5=>by
  have d0:=c0.cell;have d1:=c1.cell;exact nl (v:=.tuple #[.int .i64 0,.int .i64 11]) (by simp[results,results53,go_sem,d0,d1,t4,t5]) ⟨by rw[cmpVal,hv]; rfl,hB⟩
 have xz:=jq rM;clear rM;have c0:=b0.cell;have c1:=b1.cell;have f0:=b0.frozen;have f1:=b1.frozen
 cases va:Np.aD a.data.toList with
 | false=>
  gi_wp2_with fail;refine⟨trivial,?_⟩;gi_wp2_with fail;refine xz.out _ _ (eR (b0.set _) (by simp) _) ((eR b1 (by simp) _).set _) ((dE.setCell (bQ _) _).setCell (by simp) _) (by rw[va]; rfl) rfl rfl
 | true=>
  have VA:=jq va;clear va c0 c1 f0 f1;gi_wp2_with fail;refine⟨trivial,rfl,?_⟩;refine (callsIn_wide.2 (valid_any b hb _)).mono ?_;rintro e w2 ⟨rfl,ab⟩;have aX:w.heap.size+1<w1.heap.size:=b1.lt;replace b0:=eP b0 ab (by omega);replace b1:=eP b1 ab aX;replace dE:=dE.trans (ab.mono (by omega));have eW:=ab.size;clear ab;have c0:=b0.cell;have c1:=b1.cell;have f0:=b0.frozen;have f1:=b1.frozen
  cases vb:Np.aD b.data.toList with
  | false=>
   gi_wp2_with fail;refine xz.out _ _ (eR (b0.set _) (by simp) _) ((eR b1 (by simp) _).set _) ((dE.setCell (bQ _) _).setCell (by simp) _) (by rw[vb,Bool.and_false]) rfl rfl
  | true=>
   have VV:Hid ((Np.aD a.data.toList&&Np.aD b.data.toList)=true):=jq (by rw[VA.out,vb]; rfl);clear vb VA xz;by_cases gL:a.data.toList=b.data.toList
   ·have XL:(a.toList == b.toList)=true:=by rw[dQ,dQ,gL]; simp
    gi_wp2_with fail;have d0:=(eR (b0.set (.int .i64 0)) (p:=⟨w.heap.size+1,0,none⟩) (by simp) (.int .i64 0)).cell;have d1:=((eR b1 (p:=⟨w.heap.size,0,none⟩) (by simp) (.int .i64 0)).set (.int .i64 0)).cell;exact nl (v:=.tuple #[.int .i64 0,.int .i64 0]) (by simp[results,results53,go_sem,d0,d1]) ⟨by rw[cmpVal,VV.out,gL]; simp[Np.aI],(dE.setCell (bQ _) _).setCell (by simp) _⟩
   ·have XL:(a.toList == b.toList)=false:=by rw[dQ,dQ]; simpa using gL
    have HV:Hid (cmpVal a.data.toList b.data.toList = .tuple #[.int .i64 (Np.ni (Np.aS a.data.toList) (Np.aS b.data.toList)),.int .i64 0]):=jq (by rw[cmpVal,VV.out]; simp[Np.aI,gL]);clear gL;gi_wp2_with fail;refine⟨trivial,rfl,?_⟩;refine (callsIn_wide.2 (asX b hb _)).mono ?_;rintro e w3 ⟨rfl,yJ,ag,dC⟩;have Aw:=jq dC;clear dC;replace b0:=eP b0 ag (by omega);replace b1:=eP b1 ag (by omega);replace dE:=dE.trans (ag.mono (by omega));clear ag;have hl:=dE.size;have b8:=Boxed.new w3 156 (.func (.func 159) #[] #[.pointer (some ⟨w2.heap.size+1,0,none⟩),.pointer (some ⟨w2.heap.size,0,none⟩)]);replace b0:=b0.alloc (.cells #[.func (.func 159) #[] #[.pointer (some ⟨w2.heap.size+1,0,none⟩),.pointer (some ⟨w2.heap.size,0,none⟩)]] 156);replace b1:=b1.alloc (.cells #[.func (.func 159) #[] #[.pointer (some ⟨w2.heap.size+1,0,none⟩),.pointer (some ⟨w2.heap.size,0,none⟩)]] 156);replace yJ:rE (w3.alloc (.cells #[.func (.func 159) #[] #[.pointer (some ⟨w2.heap.size+1,0,none⟩),.pointer (some ⟨w2.heap.size,0,none⟩)]] 156)) (w2.heap.size+1) w2.heap.size (Np.aS b.data.toList):=yJ.it (B:=w3.heap.size) (S:=λ_=>True) (un _) trivial trivial;replace dE:=dE.alloc dE.size (.cells #[.func (.func 159) #[] #[.pointer (some ⟨w2.heap.size+1,0,none⟩),.pointer (some ⟨w2.heap.size,0,none⟩)]] 156);clear c0 c1 f0 f1;have n8:=Boxed.new w3 156 .nilFunc;have n8c:=n8.cell;have n8f:=n8.frozen;gi_wp2_with fail;clear n8 n8c n8f;have hEG:=enters_of func159 (by kernel_rfl) rfl;have JI:w.heap.size+1<w2.heap.size:=by omega
    have cY:w3.heap.size=w2.heap.size+2:=Aw.out;refine FM (n₀:=w.heap.size) (w0:=w) (first:=#[.string a]) (captured:=#[]) (gf:=98) rfl (enters_of func98 (by kernel_rfl) rfl) (mk:=λy=>#[.string a,y]) (λ_=>rfl)
     (DC a ha _ w) dE dE.size (λ_=>rfl) (FU w w.heap.size (w2.heap.size+1) w2.heap.size w3.heap.size (.func (.func 159) #[] #[.pointer (some ⟨w2.heap.size+1,0,none⟩),.pointer (some ⟨w2.heap.size,0,none⟩)]) a.data.toList b.data.toList)
     (FW w w.heap.size (w2.heap.size+1) w2.heap.size w3.heap.size a.data.toList b.data.toList)
     (Nh _ _ _ _ _ _ _ _ _ dE.size) (λc=>VR _ _ _ _ _ _ _ _ dE.size c)
     (λk=>k=w.heap.size\/k=w.heap.size+1\/k=w2.heap.size+1\/k=w2.heap.size\/k=w3.heap.size) (by intro k h; omega) (by intro k h; simp; omega)
     ⟨λ_=>Iff.rfl,b0,b1,b8,⟨_,yJ,λrest h=>by rw[h]; rfl⟩,dE⟩ ?round ?done ?stop
    case round=>
     rintro l0 pre x S W ck hI fG;clear cY;gi_wp2;refine⟨S,RdStep.refl _ _,λk e=>.inl e,fG,?_⟩;intro l W₂ aq;obtain⟨hS,c0,c1,c8,⟨rem,hp,B8⟩,hB⟩:=Nh w w.heap.size _ _ _ _ _ _ _ dE.size pre S W W₂ hI aq;have c8c:=c8.cell;have mC:∀ k,S k->k<W₂.heap.size:=λk e=>lQ (fG k e) aq.size;have hx:x∈Np.aS a.data.toList:=ck.subset (by simp);have ul:x.length<=140737488355328:=by have:=Np.DB hx; rw[aT] at this; omega
     obtain⟨rest,sk⟩:=ck;have j8:=B8 (x::rest) (by rw[<-sk]; simp);have HR:=jq sk;have HG:=jq j8;clear sk j8 B8 hx hI aq b0 b1 b8 yJ;gi_wp2_with fail;refine⟨trivial,rfl,?_⟩;refine (CallsIn.inRound l (callsIn_wide.2 (akJ (w2.heap.size+1) w2.heap.size (by omega) rem _ hp))).mono ?_;intro e W3 hP;rcases hP.rd with ⟨l6,rfl,rfl⟩ | ⟨y,rem',l6,rfl,hp',bd,ek,bZ⟩
     ·have c0c:=c0.cell;have c1c:=c1.cell;have c0f:=c0.frozen;have c1f:=c1.frozen;have Hg:=jq l6;clear l6 hP;gi_wp2_with fail;exact Nl hS (RdStep.refl S _) mC c0 c1 hB (by rw[HG.out,Hg.out]; rfl)
     ·have Hg:=jq l6;replace c0:=ek _ _ _ (by omega) (by omega) c0;replace c1:=ek _ _ _ (by omega) (by omega) c1;replace c8:=ek _ _ _ (by have:=Aw.out; omega) (by have:=Aw.out; omega) c8;have JP:=bd S ((hS _).2 (.inr (.inr (.inl rfl)))) ((hS _).2 (.inr (.inr (.inr (.inl rfl)))));have hB':=bZ w.heap.size w (by omega) (by omega) hB;have c0c:=c0.cell;have c1c:=c1.cell;have c0f:=c0.frozen;have c1f:=c1.frozen;clear l6 hP bd ek bZ c8c hp hB;have j8:Np.ni (Np.aS a.data.toList) (Np.aS b.data.toList)=if Np.cF x y≠0 then Np.cF x y else Np.ni rest rem':=by rw[HG.out,Hg.out]; rfl
      have LO:=jq j8;clear j8 HG;have bT:=aHY ⟨x.toArray⟩ ⟨y.toArray⟩ W3;by_cases hc:Np.cF x y=0
      ·have dG:(Np.cF x y != 0)=false:=by simp[hc]
       have HC:=jq hc;clear hc;gi_wp2_with (refine⟨trivial,rfl,?_⟩; gi_at_call 99; refine (CallsIn.inRound l (callsIn_wide.2 bT)).mono ?_; rintro e w' ⟨rfl,rfl⟩);refine⟨S,JP,λ_ e=>.inl e,λk e=>by have:=mC k e; have:=JP.size; omega,hS,c0,c1,c8,⟨rem',hp',λr hr=>?_⟩,hB'⟩
       have:r=rest:=List.append_cancel_left (hr.symm.trans HR.out.symm)
       rw[LO.out,Qc (λh=>h HC.out),this]
      ·have dG:(Np.cF x y != 0)=true:=by simpa using hc
       have HC:=jq hc;clear hc;gi_wp2_with (refine⟨trivial,rfl,?_⟩; gi_at_call 99; refine (CallsIn.inRound l (callsIn_wide.2 bT)).mono ?_; rintro e w' ⟨rfl,rfl⟩);exact Nl hS JP mC c0 c1 hB' (by rw[LO.out,Qb HC.out])
    case done=>
     rintro D S W hD gu bD ⟨hS,c0,c1,c8,⟨rem,hp,B8⟩,hB⟩ hK;clear cY b0 b1 b8 yJ;have c0c:=c0.cell;have c1c:=c1.cell;have c0f:=c0.frozen;have c1f:=c1.frozen;have wn:Np.ni (Np.aS a.data.toList) (Np.aS b.data.toList) = -1:=by rw[B8 [] (by simp)]; rfl
     have HE:=jq wn;have DZ:w.heap.size≠D:=λe=>gu ((hS _).2 (.inl e.symm));have D0:w.heap.size+1≠D:=λe=>gu ((hS _).2 (.inr (.inl e.symm)));have IL:w.heap.size<=D:=by have:=dE.size; omega
     clear wn B8 hp c8;gi_wp2;have hK':((W.setCell ⟨w.heap.size,0,none⟩ (.int .i64 (-1))).setCell ⟨w.heap.size+1,0,none⟩ (.int .i64 0)).heap[D]?=some (.deferred (some [])):=
      (wQ _ _ _ _ (by simpa using D0.symm)).trans ((wQ _ _ _ _ (by simpa using DZ.symm)).trans hK)
     have d0:=(vG (eR (c0.set (.int .i64 (-1))) (p:=⟨w.heap.size+1,0,none⟩) (by simp) (.int .i64 0)) DZ (.deferred none)).cell;have d1:=(vG ((eR c1 (p:=⟨w.heap.size,0,none⟩) (by simp) (.int .i64 (-1))).set (.int .i64 0)) D0 (.deferred none)).cell;exact po hK' (v:=.tuple #[.int .i64 (-1),.int .i64 0]) (by simp[results,results53,go_sem,d0,d1]) ⟨by rw[HV.out,HE.out],pm ((hB.setCell (bQ _) _).setCell (by simp) _) IL _⟩
    case stop=>
     rintro D c pre S W hD gu bD iJ ⟨rfl,hS,c0,c1,hB⟩ hK;clear cY b0 b1 b8 yJ;have DZ:w.heap.size≠D:=λe=>gu ((hS _).2 (.inl e.symm));have D0:w.heap.size+1≠D:=λe=>gu ((hS _).2 (.inr (.inl e.symm)));have IL:w.heap.size<=D:=by have:=dE.size; omega
     gi_wp2;have d0:=(vG c0 DZ (.deferred none)).cell;have d1:=(vG c1 D0 (.deferred none)).cell;exact po hK (v:=.tuple #[.int .i64 (Np.ni (Np.aS a.data.toList) (Np.aS b.data.toList)),.int .i64 0]) (by simp[results,results53,go_sem,d0,d1]) ⟨by rw[HV.out],pm hB IL _⟩
end D
section
open Go.RowKit
def cmpVal(a b:List UInt8):Value:=if Np.aD a&&Np.aD b then .tuple #[.int .i64 (Np.aI a b),.int .i64 0] else .tuple #[.int .i64 0,.int .i64 11]
theorem compare_any(a b:ByteArray)(ha:a.size<=140737488355328)(hb:b.size<=140737488355328)(w:World) :
 Calls prog 53 #[.string a,.string b] w λe w'=>e = .returned (cmpVal a.data.toList b.data.toList)/\Below w.heap.size w w':=
 (D.compare_any a b ha hb w).mono λ_ _ h=>⟨h.1,h.2.low⟩
end
namespace Np
inductive Res (α:Type) where
 | ok (a:α) (r:List Tok)
 | err (e:Int) (r:List Tok)
deriving DecidableEq
structure Diag where
 err:Int
 pos:Int
deriving DecidableEq
def okR:List (List UInt8)->Bool
 | []=>true
 | [x]=>cw x||x == [42]
 | x::y::r=>cw x&&okR (y::r)
theorem aHJ:cw [42]=false:=by decide
theorem Xj(xs:List (List UInt8))(n:Nat):fp xs n true=xs.isEmpty:=by cases xs <;> simp[fp]
theorem Xi:∀ (xs:List (List UInt8)) (n:Nat),n<=8->fp xs n false=(decide (n+xs.length<=8)&&okR xs):=by
 intro xs
 induction xs with
 | nil=>intro n hn; simp[fp,okR,hn]
 | cons x xs ih=>
  intro n hn;rw[fp];by_cases h8:8<n+1
  ·rw[Qb (by simp; omega),tQ (by simp; omega)]; rfl
  ·rw[Qc (by simp; omega)];by_cases hx:x = [42]
   ·subst hx;rw[Qb rfl,Xj]
    cases xs with
    | nil=>simp[okR]; omega
    | cons y r=>simp[okR,aHJ]
   ·rw[Qc hx];by_cases hl:cw x=true
    ·rw[Qb hl,ih (n+1) (by omega)]
     cases xs with
     | nil=>simp[okR,hl]
     | cons y r=>simp only[okR,hl,Bool.true_and,List.length_cons]; congr 1; congr 1; apply propext; omega
    ·rw[Qc hl]
     cases xs with
     | nil=>simp[okR,hl,hx]
     | cons y r=>simp[okR,hl]
def uo:List (List UInt8)->Bool
 | []=>true
 | h::t=>(cw h||h == [42])&&t.all cw
theorem amJ:∀ (a:List (List UInt8)) (h:List UInt8),okR (a ++ [h])=(a.all cw&&(cw h||h == [42])):=by
 intro a h
 induction a with
 | nil=>simp[okR]
 | cons x a ih=>
  cases a with
  | nil=>simp[okR]
  | cons y r=>
   simp only[List.cons_append,okR] at ih |-;rw[ih]; simp[Bool.and_assoc]
theorem amZ(l:List (List UInt8)):okR l.reverse=uo l:=by
 cases l with
 | nil=>rfl
 | cons h t=>rw[List.reverse_cons,amJ,uo,List.all_reverse,Bool.and_comm]
theorem RQ(s:List UInt8):aD s=if s = [46] then true else if 60<s.length then false else uo (aR s)&&decide ((aR s).length<=8):=by
 unfold aD;split
 ·rfl
 ·split
  ·rfl
  ·rw[Xi _ 0 (by omega),amZ,List.length_reverse,Bool.and_comm]; simp
def kd:List (List UInt8)->List UInt8
 | []=>[]
 | [x]=>x
 | x::y::r=>x++46::kd (y::r)
theorem adQ(c:UInt8)(x:List UInt8)(xs:List (List UInt8)):kd ((c::x)::xs)=c::kd (x::xs):=by
 cases xs <;> simp[kd]
theorem yU(s:List UInt8):kd (aR s)=s:=by
 induction s with
 | nil=>rfl
 | cons c r ih=>
  rw[aR];have hne:=qY r
  cases hr:aR r with
  | nil=>exact absurd hr hne
  | cons x xs=>
   rw[hr] at ih;split
   ·rename_i hc; subst hc; rw[kd,ih]; rfl
   ·rw[adQ,ih]
theorem acY:∀ (l m:List (List UInt8)),l≠[]->m≠[]->kd (l++m)=kd l++46::kd m:=by
 intro l
 induction l with
 | nil=>intro m h; exact absurd rfl h
 | cons x l ih=>
  intro m _ hm
  cases l with
  | nil=>
   cases m with
   | nil=>exact absurd rfl hm
   | cons y m=>simp[kd]
  | cons y l=>
   have:=ih m (by simp) hm
   simp only[List.cons_append,kd] at this |-;rw[this]; simp
def eB(s:List UInt8):List (List UInt8):=if s = [46] then [] else aR s
theorem Cx(s:List UInt8):(eB s).reverse=aS s:=by
 unfold eB aS; split <;> rfl
theorem AP{a b:List UInt8}(h:aS a=aS b):a=b:=by
 unfold aS at h;by_cases ha:a = [46]
 ·by_cases hb:b = [46]
  ·rw[ha,hb]
  ·rw[Qb ha,Qc hb] at h
   have:=qY b
   exact absurd (List.reverse_eq_nil_iff.1 h.symm) this
 ·by_cases hb:b = [46]
  ·rw[Qb hb,Qc ha] at h;exact absurd (List.reverse_eq_nil_iff.1 h) (qY a)
  ·rw[Qc ha,Qc hb] at h
   have:=List.reverse_inj.1 h
   rw[<-yU a,this,yU]
def inL(l m:List (List UInt8)):Bool:=decide (m.length<=l.length)&&(l.drop (l.length - m.length) == m)
theorem P2{l m:List (List UInt8)} : inL l m=true↔∃ p,l=p++m:=by
 unfold inL;simp only[Bool.and_eq_true,Qa,beq_iff_eq];constructor
 ·rintro⟨h1,h2⟩;refine⟨l.take (l.length - m.length),?_⟩;rw[<-h2,List.length_drop]
  conv => lhs; rw[<-List.take_append_drop (l.length - m.length) l]
  congr 2; omega
 ·rintro⟨p,rfl⟩;refine⟨by simp,?_⟩;rw[List.length_append,Nat.add_sub_cancel,List.drop_left]
theorem Cs{s z:List UInt8}(hz:z≠[]):inL (eB s) (eB z)=bp s z:=by
 rw[Bool.eq_iff_iff,P2];unfold bp eB;simp only[Bool.or_eq_true,Bool.and_eq_true,beq_iff_eq,Qa];by_cases h1:z = [46]
 ·rw[Qb h1];exact⟨λ_=>.inl (.inr h1),λ_=>⟨_,(List.append_nil _).symm⟩⟩
 ·rw[Qc h1];by_cases h2:s = [46]
  ·rw[Qb h2];constructor
   ·rintro⟨p,hp⟩
    have:=List.append_eq_nil_iff.1 hp.symm
    exact absurd this.2 (qY z)
   ·rintro ((h | h) | ⟨⟨h3,_⟩,_⟩)
    ·exact absurd (h ▸ h2) h1
    ·exact absurd h h1
    ·subst h2;have h4:z.length<1:=h3;exact absurd (rQ (by omega)) hz
  ·rw[Qc h2];constructor
   ·rintro⟨p,hp⟩;by_cases h0:p = []
    ·subst h0;rw[List.nil_append] at hp;left; left;rw[<-yU s,hp,yU]
    ·right;have hs:s=kd p++46::z:=by
      rw[<-yU s,hp,acY _ _ h0 (qY z),yU]
     subst hs;refine⟨⟨by simp; omega,?_⟩,?_⟩
     ·rw[show (kd p++46::z).length - z.length=(kd p ++ [46]).length by simp; omega,show kd p++46::z=(kd p ++ [46])++z by simp,List.drop_left]
     ·rw[show (kd p++46::z).length - z.length - 1=(kd p).length by simp; omega];rw[oQ (bQ _)]; simp
   ·rintro ((h | h) | ⟨⟨h3,h4⟩,h5⟩)
    ·exact⟨[],by rw[h]; rfl⟩
    ·exact absurd h h1
    ·have hs:s=s.take (s.length - z.length - 1)++46::z:=by
      conv => lhs; rw[<-List.take_append_drop (s.length - z.length - 1) s]
      congr 1;obtain⟨hl,he⟩:=cQ.1 h5;rw[sQ hl,he,show s.length - z.length - 1+1=s.length - z.length by omega,h4]
     refine⟨aR (s.take (s.length - z.length - 1)),?_⟩
     conv => lhs; rw[hs]
     rw[CK]
def cG:List (List UInt8)->List (List UInt8)->Int
 | [],[]=>0
 | [],_::_=>-1
 | _::_,[]=>1
 | x::xs,y::ys=>if cF x y≠0 then cF x y else cG xs ys
theorem vI(x:List UInt8):cF x x=0:=by
 have:∀ x:List UInt8,Go.Op.bytesLess x x=false:=by
  intro x
  induction x with
  | nil=>rfl
  | cons a x ih=>simp[Go.Op.bytesLess,ih]
 simp[cF,this]
theorem rH{x y:List UInt8}(h:cF x y=0):x=y:=by
 unfold cF at h;split at h
 ·omega
 ·split at h
  ·assumption
  ·omega
theorem QG(l:List (List UInt8)):cG l l=0:=by
 induction l with
 | nil=>rfl
 | cons x l ih=>rw[cG,vI,Qc (by simp),ih]
theorem amY:∀ (l m:List (List UInt8)),l≠m->cG l m=ni l m:=by
 intro l
 induction l with
 | nil=>
  intro m h
  cases m with
  | nil=>exact absurd rfl h
  | cons y m=>rfl
 | cons x l ih=>
  intro m h
  cases m with
  | nil=>rfl
  | cons y m=>
   rw[cG,ni];by_cases hc:cF x y≠0
   ·rw[Qb hc,Qb hc]
   ·rw[Qc hc,Qc hc]
    have:=rH (Decidable.not_not.1 hc)
    subst this;exact ih m (λe=>h (by rw[e]))
theorem AT(a b:List UInt8):aI a b=cG (aS a) (aS b):=by
 unfold aI;split
 ·rename_i h; rw[h,QG]
 ·rename_i h; exact (amY _ _ (λe=>h (AP e))).symm
theorem AU(a:List UInt8):aI a a=0:=by simp[aI]
theorem DF{a b:List UInt8}(h:aI a b=0):a=b:=by
 rw[AT] at h;refine AP ?_
 have:∀ l m:List (List UInt8),cG l m=0->l=m:=by
  intro l
  induction l with
  | nil=>intro m h; cases m with
    | nil=>rfl
    | cons y m=>simp[cG] at h
  | cons x l ih=>
   intro m h
   cases m with
   | nil=>simp[cG] at h
   | cons y m=>
    rw[cG] at h;split at h
    ·rename_i hc; exact absurd h hc
    ·rename_i hc;rw[rH (Decidable.not_not.1 hc),ih m h]
 exact this _ _ h
theorem DG(a b:DSet):gK a b=if aI a.name b.name≠0 then aI a.name b.name else cJ a.type b.type:=by
 unfold gK;by_cases h:a.name=b.name
 ·rw[Qc (by simp[h]),h,AU,Qc (by simp)]
 ·rw[Qb h,Qb (λe=>h (DF e))]
theorem Vw:∀ (x y:List UInt8),Go.Op.bytesLess x y=false->x≠y->Go.Op.bytesLess y x=true:=by
 intro x
 induction x with
 | nil=>intro y h hn; cases y with
   | nil=>exact absurd rfl hn
   | cons b y=>simp[Go.Op.bytesLess] at h
 | cons a x ih=>
  intro y h hn
  cases y with
  | nil=>simp[Go.Op.bytesLess]
  | cons b y=>
   simp only[Go.Op.bytesLess] at h |-;by_cases h1:a<b
   ·simp[h1] at h
   ·by_cases h2:b<a
    ·simp[h2]
    ·have h3:a=b:=by
      apply UInt8.toNat_inj.1;simp only[UInt8.lt_iff_toNat_lt] at h1 h2;omega
     subst h3;simp[h1] at h |-;exact ih y h (λe=>hn (by rw[e]))
theorem x9(x y:List UInt8):(Go.Op.bytesLess x y=true/\cF x y = -1)\/(Go.Op.bytesLess x y=false/\Go.Op.bytesLess y x=true/\x≠y/\cF x y=1)\/(Go.Op.bytesLess x y=false/\Go.Op.bytesLess y x=false/\x=y/\cF x y=0):=by
 cases h:Go.Op.bytesLess x y with
 | true=>exact .inl ⟨rfl,by simp[cF,h]⟩
 | false=>
  by_cases hn:x=y
  ·subst hn; exact .inr (.inr ⟨rfl,h,rfl,vI x⟩)
  ·exact .inr (.inl ⟨rfl,Vw x y h hn,hn,by simp[cF,h,hn]⟩)
def Ko(a b:Datum):Bool:=if a.text≠b.text then Go.Op.bytesLess a.text b.text else if a.n≠b.n then decide (a.n<b.n) else decide (a.m<b.m)
theorem agY(a b:Datum):Ko a b=decide (qr a b<0):=by
 unfold Ko qr;rcases x9 a.text b.text with ⟨h1,h2⟩ | ⟨h1,_,h3,h2⟩ | ⟨_,_,h3,h2⟩
 ·have hn:a.text≠b.text:=λe=>by rw[e,vI] at h2; omega
  rw[Qb hn,Qb (by omega),h1,h2]; rfl
 ·rw[Qb h3,Qb (by omega),h1,h2]; rfl
 ·rw[Qc (show ¬ a.text≠b.text from λe=>e h3),Qc (show ¬ cF a.text b.text≠0 from λe=>e h2)];by_cases h4:a.n=b.n
  ·rw[Qc (show ¬ a.n≠b.n from λe=>e h4)];have h5:cJ a.n b.n=0:=by unfold cJ; rw[Qc (by omega),Qc (by omega)]
   rw[Qc (show ¬ cJ a.n b.n≠0 from λe=>e h5)];unfold cJ;by_cases h6:a.m<b.m
   ·rw[Qb h6]; simp[h6]
   ·by_cases h7:b.m<a.m
    ·rw[Qc h6,Qb h7]; simp; omega
    ·rw[Qc h6,Qc h7]; simp; omega
  ·rw[Qb (show a.n≠b.n from h4)];by_cases h6:a.n<b.n
   ·have h5:cJ a.n b.n = -1:=by unfold cJ; rw[Qb h6]
    rw[h5]; simp[h6]
   ·have h5:cJ a.n b.n=1:=by unfold cJ; rw[Qc h6,Qb (by omega)]
    rw[h5]; simp; omega
structure TO{α:Type}(c:α->α->Int):Prop where
 self:∀ x,c x x=0
 zero:∀ x y,c x y=0->x=y
 anti:∀ x y,c x y<0->0<c y x
 anti':∀ x y,0<c x y->c y x<0
 trans:∀ x y z,c x y<0->c y z<0->c x z<0
theorem TO.lex{α β γ:Type}{c:α->α->Int}{d:β->β->Int}(hc:TO c)(hd:TO d)(f:γ->α)(g:γ->β)(Yy:∀ x y,f x=f y->g x=g y->x=y):TO (λx y:γ=>if c (f x) (f y)≠0 then c (f x) (f y) else d (g x) (g y)) where
 self x:=by simp[hc.self,hd.self]
 zero x y h:=by
  by_cases h1:c (f x) (f y)≠0
  ·rw[Qb h1] at h; exact absurd h h1
  ·rw[Qc h1] at h; exact Yy x y (hc.zero _ _ (Decidable.not_not.1 h1)) (hd.zero _ _ h)
 anti x y h:=by
  by_cases h1:c (f x) (f y)≠0
  ·rw[Qb h1] at h
   have:=hc.anti _ _ h
   rw[Qb (by omega)]; exact this
  ·rw[Qc h1] at h;have e:=hc.zero _ _ (Decidable.not_not.1 h1);rw[e,hc.self,Qc (by simp)];exact hd.anti _ _ h
 anti' x y h:=by
  by_cases h1:c (f x) (f y)≠0
  ·rw[Qb h1] at h
   have:=hc.anti' _ _ h
   rw[Qb (by omega)]; exact this
  ·rw[Qc h1] at h;have e:=hc.zero _ _ (Decidable.not_not.1 h1);rw[e,hc.self,Qc (by simp)];exact hd.anti' _ _ h
 trans x y z h k:=by
  by_cases h1:c (f x) (f y)≠0
  ·rw[Qb h1] at h;by_cases h2:c (f y) (f z)≠0
   ·rw[Qb h2] at k
    have:=hc.trans _ _ _ h k
    rw[Qb (by omega)]; exact this
   ·have e:=hc.zero _ _ (Decidable.not_not.1 h2);rw[<-e,Qb h1]; exact h
  ·rw[Qc h1] at h;have e:=hc.zero _ _ (Decidable.not_not.1 h1);by_cases h2:c (f y) (f z)≠0
   ·rw[Qb h2] at k;rw[e,Qb h2]; exact k
   ·rw[Qc h2] at k;rw[e,Qc h2];exact hd.trans _ _ _ h k
theorem TO.of{α β:Type}{c:α->α->Int}(hc:TO c)(f:β->α)(hf:∀ x y,f x=f y->x=y):TO (λx y=>c (f x) (f y)) where
 self _:=hc.self _
 zero _ _ h:=hf _ _ (hc.zero _ _ h)
 anti _ _ h:=hc.anti _ _ h
 anti' _ _ h:=hc.anti' _ _ h
 trans _ _ _ h k:=hc.trans _ _ _ h k
theorem E0:∀ (x y:List UInt8),Go.Op.bytesLess x y=decide (x<y)
 | [],[]=>by simp[Go.Op.bytesLess]
 | _::_,[]=>by simp[Go.Op.bytesLess]
 | [],_::_=>by simp[Go.Op.bytesLess]
 | a::x,b::y=>by
   rw[Go.Op.bytesLess,E0 x y];simp only[List.cons_lt_cons_iff];by_cases h1:a<b <;> by_cases h2:a=b <;> by_cases h3:x<y <;> simp[h1,h2,h3]
theorem toS:TO cF where
 self:=vI
 zero _ _:=rH
 anti x y h:=by
  rcases x9 x y with ⟨h1,h2⟩ | ⟨_,_,_,h2⟩ | ⟨_,_,_,h2⟩
  ·rcases x9 y x with ⟨h3,h4⟩ | ⟨_,_,_,h4⟩ | ⟨_,_,h5,h4⟩
   ·rw[E0,Qa] at h1 h3;exact absurd h3 (List.lt_asymm h1)
   ·omega
   ·rw[h5,vI] at h; omega
  ·omega
  ·omega
 anti' x y h:=by
  rcases x9 x y with ⟨_,h2⟩ | ⟨_,h1,_,h2⟩ | ⟨_,_,_,h2⟩
  ·omega
  ·simp[cF,h1]
  ·omega
 trans x y z h k:=by
  have e:∀ a b:List UInt8,cF a b<0->a<b:=λa b h=>by
   rcases x9 a b with ⟨h1,h2⟩ | ⟨_,_,_,h2⟩ | ⟨_,_,_,h2⟩
   ·rw[E0,Qa] at h1; exact h1
   ·omega
   ·omega
  have:=List.lt_trans (e _ _ h) (e _ _ k)
  unfold cF;rw[E0,Qb (by simpa using this)];omega
theorem toI:TO cJ where
 self x:=by unfold cJ; rw[Qc (by omega),Qc (by omega)]
 zero x y h:=by unfold cJ at h; split at h; omega; split at h <;> omega
 anti x y h:=by
  unfold cJ at h |-;split at h
  ·rw[Qc (by omega),Qb (by omega)]; omega
  ·split at h <;> omega
 anti' x y h:=by
  unfold cJ at h |-;split at h
  ·omega
  ·split at h
   ·rw[Qb (by omega)]; omega
   ·omega
 trans x y z h k:=by
  unfold cJ at h k |-;split at h
  ·split at k
   ·rw[Qb (by omega)]; omega
   ·split at k <;> omega
  ·split at h <;> omega
theorem toR:TO cG:=by
 have hs:=toS;refine⟨QG,?_,?_,?_,?_⟩
 ·intro l
  induction l with
  | nil=>intro m h; cases m with
    | nil=>rfl
    | cons y m=>simp[cG] at h
  | cons x l ih=>
   intro m h
   cases m with
   | nil=>simp[cG] at h
   | cons y m=>
    rw[cG] at h;split at h
    ·rename_i hc; exact absurd h hc
    ·rename_i hc;rw[rH (Decidable.not_not.1 hc),ih m h]
 ·intro l
  induction l with
  | nil=>intro m h; cases m with
    | nil=>simp[cG] at h
    | cons y m=>simp[cG]
  | cons x l ih=>
   intro m h
   cases m with
   | nil=>simp[cG] at h
   | cons y m=>
    rw[cG] at h |-;split at h
    ·have:=hs.anti _ _ h
     rw[Qb (by omega)]; exact this
    ·rename_i hc;have e:=rH (Decidable.not_not.1 hc);subst e;rw[Qc hc];exact ih m h
 ·intro l
  induction l with
  | nil=>intro m h; cases m with
    | nil=>simp[cG] at h
    | cons y m=>simp[cG] at h
  | cons x l ih=>
   intro m h
   cases m with
   | nil=>simp[cG]
   | cons y m=>
    rw[cG] at h |-;split at h
    ·have:=hs.anti' _ _ h
     rw[Qb (by omega)]; exact this
    ·rename_i hc;have e:=rH (Decidable.not_not.1 hc);subst e;rw[Qc hc];exact ih m h
 ·intro l
  induction l with
  | nil=>intro m n h k; cases m with
    | nil=>simp[cG] at h
    | cons y m=>cases n with
      | nil=>simp[cG] at k
      | cons z n=>simp[cG]
  | cons x l ih=>
   intro m n h k
   cases m with
   | nil=>simp[cG] at h
   | cons y m=>
    cases n with
    | nil=>simp[cG] at k
    | cons z n=>
     rw[cG] at h k |-;by_cases hc:cF x y≠0
     ·rw[Qb hc] at h;by_cases hd:cF y z≠0
      ·rw[Qb hd] at k
       have:=hs.trans _ _ _ h k
       rw[Qb (by omega)]; exact this
      ·have e:=rH (Decidable.not_not.1 hd);rw[<-e,Qb hc]; exact h
     ·rw[Qc hc] at h;have e:=rH (Decidable.not_not.1 hc);by_cases hd:cF y z≠0
      ·rw[Qb hd] at k;rw[e,Qb hd]; exact k
      ·rw[Qc hd] at k;rw[e,Qc hd];exact ih m n h k
theorem fd:TO aI:=by
 have:=toR.of aS (λ_ _ h=>AP h)
 have e:aI=λx y=>cG (aS x) (aS y):=by funext x y; exact AT x y
 rw[e]; exact this
def eS(a b:List UInt8×Int):Int:=if aI a.1 b.1≠0 then aI a.1 b.1 else cJ a.2 b.2
theorem zm:TO eS:=fd.lex toI (λd:List UInt8×Int=>d.1) (λd=>d.2) (λ_ _ h k=>Prod.ext h k)
def eu(s:DSet):List UInt8×Int:=(s.name,s.type)
theorem In(a b:DSet):gK a b=eS (eu a) (eu b):=DG a b
theorem agX{α:Type}{c:α->α->Int}(h:TO c)(x y z:α):(!decide (c y x<0))=true->(!decide (c z y<0))=true->(!decide (c z x<0))=true:=by
 simp only[Bool.not_eq_true',decide_eq_false_iff_not,Int.not_lt];intro h1 h2;apply Decidable.byContradiction;intro h3;have h4:c z x<0:=by omega
 rcases Int.lt_or_eq_of_le h1 with h5 | h5
 ·have:=h.trans _ _ _ h4 (h.anti' _ _ h5); omega
 ·have:=h.zero _ _ h5.symm; subst this; omega
theorem agK{α:Type}{c:α->α->Int}(h:TO c)(x y:α):((!decide (c y x<0))||(!decide (c x y<0)))=true:=by
 by_cases h1:c y x<0
 ·have:=h.anti _ _ h1
  have:¬ c x y<0:=by omega
  simp[this]
 ·simp[h1]
theorem oR{s z:List UInt8}(hz:z≠[]):bp s z=true↔aS z <+: aS s:=by
 rw[<-Cs hz,P2,<-Cx,<-Cx];constructor
 ·rintro⟨p,h⟩;exact⟨p.reverse,by rw[h,List.reverse_append]⟩
 ·rintro⟨p,h⟩;refine⟨p.reverse,?_⟩
  have:=Qd List.reverse h
  simpa using this.symm
theorem QL:∀ (c n:List (List UInt8)),c <+: n->cG c n<=0
 | [],[],_=>by simp[cG]
 | [],_::_,_=>by simp[cG]
 | x::c,[],h=>by have:=h.length_le; simp at this
 | x::c,y::n,h=>by
   obtain⟨rfl,h2⟩:=List.cons_prefix_cons.1 h;rw[cG,vI,Qc (by simp)];exact QL c n h2
theorem QK:∀ (c a b:List (List UInt8)),c <+: b->cG c a<=0->cG a b<=0->c <+: a
 | [],a,b,_,_,_=>List.nil_prefix
 | x::c,[],b,_,h,_=>by simp[cG] at h
 | x::c,y::a,[],h,_,_=>by have:=h.length_le; simp at this
 | x::c,y::a,z::b,h,h1,h2=>by
   obtain⟨rfl,h3⟩:=List.cons_prefix_cons.1 h;rw[cG] at h1 h2;by_cases bB:cF x y=0
   ·have e:=rH bB;subst e;rw[vI,Qc (by simp)] at h1 h2;exact List.cons_prefix_cons.2 ⟨rfl,QK c a b h3 h1 h2⟩
   ·rw[Qb bB] at h1
    have:=toS.anti x y (by omega)
    rw[Qb (by omega)] at h2;omega
theorem FJ{s z:List UInt8}(hz:z≠[])(h:bp s z=true):aI z s<=0:=by
 rw[AT]; exact QL _ _ ((oR hz).1 h)
theorem K1{c a b:List UInt8}(hc:c≠[])(h:bp b c=true)(h1:aI c a<=0)(h2:aI a b<=0):bp a c=true:=by
 rw[AT] at h1 h2;exact (oR hc).2 (QK _ _ _ ((oR hc).1 h) h1 h2)
theorem K2{a b c:List UInt8}(hb:b≠[])(hc:c≠[])(h1:bp a b=true)(h2:bp b c=true):bp a c=true:=
 (oR hc).2 (((oR hc).1 h2).trans ((oR hb).1 h1))
theorem FK(a:List UInt8):bp a a=true:=by simp[bp]
theorem RI{n a b:List UInt8}(ha:a≠[])(hb:b≠[])(h1:bp n a=true)(h2:bp n b=true):bp a b=true\/bp b a=true:=by
 rcases List.prefix_or_prefix_of_prefix ((oR ha).1 h1) ((oR hb).1 h2) with h | h
 ·exact .inr ((oR ha).2 h)
 ·exact .inl ((oR hb).2 h)
def jl(C:List UInt8->Bool)(n o:List UInt8):Prop:=
 (o = []/\∀ c,C c=true->bp n c=false)\/(C o=true/\bp n o=true/\∀ c,C c=true->bp o c=true->c=o)
theorem jl.unique{C:List UInt8->Bool}(hC:∀ c,C c=true->c≠[]){n a b:List UInt8}(ha:jl C n a)(hb:jl C n b):a=b:=by
 rcases ha with ⟨rfl,ha⟩ | ⟨a1,a2,a3⟩
 ·rcases hb with ⟨rfl,_⟩ | ⟨b1,b2,_⟩
  ·rfl
  ·rw[ha b b1] at b2; cases b2
 ·rcases hb with ⟨rfl,hb⟩ | ⟨b1,b2,b3⟩
  ·rw[hb a a1] at a2; cases a2
  ·rcases RI (hC a a1) (hC b b1) a2 b2 with h | h
   ·exact (a3 b b1 h).symm
   ·exact b3 a a1 h
theorem jl.above{C:List UInt8->Bool}(hC:∀ c,C c=true->c≠[]){n o c:List UInt8}(h:jl C n o)(hc:C c=true)(hu:bp n c=true):C o=true/\bp n o=true/\bp c o=true:=by
 rcases h with ⟨_,h⟩ | ⟨h1,h2,h3⟩
 ·rw[h c hc] at hu; cases hu
 ·refine⟨h1,h2,?_⟩;rcases RI (hC o h1) (hC c hc) h2 hu with h | h
  ·rw[h3 c hc h]; exact FK o
  ·exact h
def dI(C:List UInt8->Bool)(cut n:List UInt8):List UInt8:=
 if (if cut≠[]/\bp n cut=false then [] else cut) = []/\C n=true then n else if cut≠[]/\bp n cut=false then [] else cut
theorem RD{C:List UInt8->Bool}{n:List UInt8}(h:∀ c,C c=true->bp n c=true->c=n):jl C n (if C n=true then n else []):=by
 split
 ·rename_i hn;exact .inr ⟨hn,FK n,h⟩
 ·rename_i hn;refine .inl ⟨rfl,λc hc=>?_⟩
  cases hu:bp n c with
  | false=>rfl
  | true=>rw[<-h c hc hu] at hn; exact absurd hc hn
theorem aHK{C:List UInt8->Bool}(hC:∀ c,C c=true->c≠[]){n:List UInt8}(az:∀ c,C c=true->¬ aI c n<0):jl C n (dI C [] n):=by
 have h:=RD (n:=n) (λc hc hu=>by
  have h1:=FJ (hC c hc) hu;have h2:=az c hc;exact DF (by omega))
 have e:dI C [] n=if C n=true then n else []:=by simp[dI]
 rw[e]; exact h
theorem aHX{C:List UInt8->Bool}(hC:∀ c,C c=true->c≠[]){m cut n:List UInt8}(hm:jl C m cut)(gw:aI m n<=0)(az:∀ c,C c=true->aI c n<0->aI c m<=0):jl C n (dI C cut n):=by
 by_cases hcut:cut≠[]/\bp n cut=true
 ·have e:dI C cut n=cut:=by simp[dI,hcut.1,hcut.2]
  rw[e];rcases hm with ⟨h,_⟩ | ⟨h1,_,h3⟩
  ·exact absurd h hcut.1
  ·exact .inr ⟨h1,hcut.2,h3⟩
 ·have oH:∀ c,C c=true->bp n c=true->c=n:=λc hc hu=>by
   refine Classical.byContradiction λhne=>hcut ?_;have h1:=FJ (hC c hc) hu;have aa:aI c n<0:=by
    rcases Int.lt_or_eq_of_le h1 with h | h
    ·exact h
    ·exact absurd (DF h) hne
   have h2:=K1 (hC c hc) hu (az c hc aa) gw;obtain⟨a1,_,a3⟩:=hm.above hC hc h2;exact⟨hC _ a1,K2 (hC c hc) (hC _ a1) hu a3⟩
  have h:=RD oH;have e:dI C cut n=if C n=true then n else []:=by
   unfold dI;by_cases h0:cut = []
   ·subst h0; simp
   ·have:bp n cut=false:=by
     cases hu:bp n cut with
     | false=>rfl
     | true=>exact absurd ⟨h0,hu⟩ hcut
    simp[h0,this]
  rw[e]; exact h
structure MN(C:List UInt8->Bool)(H:List (List UInt8)):Prop where
 cut:∀ h∈H,C h=true/\∀ c,C c=true->bp h c=true->c=h
 sorted:H.Pairwise λa b=>aI a b<0
theorem YK{C:List UInt8->Bool}(hC:∀ c,C c=true->c≠[]){H:List (List UInt8)}(hH:MN C H){n:List UInt8}(az:∀ h,C h=true->(∀ c,C c=true->bp h c=true->c=h)->aI h n<=0->h∈H){k:Nat}(hk:k<=H.length)(h1:∀ j (hj:j<H.length),j<k->aI H[j] n<=0)(h2:∀ j (hj:j<H.length),k<=j->0<aI H[j] n) :
 jl C n (if h:0<k/\bp n (H[k - 1]?.getD [])=true then H[k - 1]?.getD [] else []):=by
 have ig:∀ c,C c=true->bp n c=true->(∀ d,C d=true->bp c d=true->d=c)->0<k/\∃ bG:k - 1<H.length,H[k - 1]=c:=λc hc hu ht=>by
  have gw:=FJ (hC c hc) hu;obtain⟨j,hj,rfl⟩:=nQ.1 (az c hc ht gw);have BN:j<k:=by
   refine Nat.lt_of_not_le λh=>?_
   have:=h2 j hj h
   omega
  refine⟨by omega,by omega,?_⟩;rcases Nat.lt_or_ge j (k - 1) with h | h
  ·have h3:=List.pairwise_iff_getElem.1 hH.sorted j (k - 1) hj (by omega) h;have h4:=h1 (k - 1) (by omega) (by omega);have h5:=K1 (hC _ hc) hu (by omega) h4;have h6:=(hH.cut _ (List.getElem_mem (show k - 1<H.length by omega))).2 _ hc h5;exact h6.symm
  ·obtain rfl:j=k - 1:=by omega
   rfl
 split
 ·rename_i h;obtain⟨h0,h⟩:=h;have hl:k - 1<H.length:=by omega
  rw[aQ hl] at h |-;obtain⟨a,b⟩:=hH.cut _ (List.getElem_mem hl);exact .inr ⟨a,h,b⟩
 ·rename_i h;refine .inl ⟨rfl,λc hc=>?_⟩
  cases hu:bp n c with
  | false=>rfl
  | true=>
   exfalso;have hex:∀ (m:Nat) (c:List UInt8),(aS c).length<=m->C c=true->bp n c=true->∃ t,C t=true/\bp n t=true/\∀ d,C d=true->bp t d=true->d=t:=by
    intro m
    induction m with
    | zero=>
     intro c hm hc hu;refine⟨c,hc,hu,λd hd Jg=>?_⟩;have h3:=((oR (hC d hd)).1 Jg);exact AP (h3.eq_of_length_le (by omega))
    | succ m ih=>
     intro c hm hc hu;by_cases ht:∀ d,C d=true->bp c d=true->d=c
     ·exact⟨c,hc,hu,ht⟩
     ·obtain⟨d,hd⟩:=Classical.not_forall.1 ht;obtain⟨eU,hd⟩:=Classical.not_imp.1 hd;obtain⟨ls,Ji⟩:=Classical.not_imp.1 hd;have h3:=((oR (hC d eU)).1 ls);refine ih d ?_ eU (K2 (hC c hc) (hC d eU) hu ls);refine Nat.le_of_lt_succ (lQ (Nat.lt_of_not_le λhl=>Ji (AP (h3.eq_of_length_le hl))) hm)
   obtain⟨t,t1,t2,t3⟩:=hex _ c (bQ _) hc hu;obtain⟨p1,p2,p3⟩:=ig t t1 t2 t3;refine h ⟨p1,?_⟩;rw[aQ p2,p3];exact t2
end Np
section
open Go.RowKit
theorem azQ{a b:Bool}(h:a=b):Ending.returned (.tuple #[.bool a,.int .i64 0]) = .returned (.tuple #[.bool b,.int .i64 0]):=by rw[h]
def Np.zk(s z:ByteArray):Bool:=decide (z.size<=s.size)&&((s.extract (s.size - z.size) s.size).toList == z.toList)
def Np.K0(s z:ByteArray):Bool:=(s.toList == z.toList)||(z.toList == [46])||(decide (z.size<s.size)&&Np.zk s z&&((s.data.toList[s.size - z.size - 1]?).map UInt8.toNat == some 46))
theorem aIJ(s z:ByteArray)(h:z.size<=s.size):Np.zk s z=(s.data.toList.drop (s.data.toList.length - z.data.toList.length) == z.data.toList):=by
 unfold Np.zk;rw[uQ h,Bool.true_and,dQ,dQ,DN,aT,aT]
theorem aKX(s z:ByteArray):Np.K0 s z=Np.bp s.data.toList z.data.toList:=by
 unfold Np.K0 Np.bp;rw[dQ,dQ,aT,aT];congr 1;by_cases h:z.size<s.size
 ·rw[aIJ s z (by omega),aT,aT,uQ h];congr 1;have e:s.data.toList[s.size - z.size - 1]?=some (s[s.size - z.size - 1]'(by omega)):=yf s _ (by omega);rw[e];simp only[Option.map_some];rw[Bool.eq_iff_iff];simp only[beq_iff_eq,Option.some.injEq];constructor
  ·intro h; apply UInt8.toNat_inj.1; rw[h]; rfl
  ·intro h; rw[h]; rfl
 ·rw[tQ h]; rfl
theorem XR(s z:ByteArray)(hs:s.size<=140737488355328)(hz:z.size<=140737488355328)(w:World) :
 Calls prog 240 #[.string s,.string z] w λe w'=>e = .returned (.bool (Np.zk s z))/\w'=w:=by
 go_enter func240,ntmps240;go_wp2_with fail
 all_goals
  go_ret;refine⟨ae ?_,rfl⟩;simp_all [Np.zk] <;> (intros; omega)
theorem XQ(s z:ByteArray)(hs:s.size<=140737488355328)(hz:z.size<=140737488355328)(w:World) :
 Calls prog 198 #[.string s,.string z] w λe w'=>e = .returned (.bool (Np.zk s z))/\w'=w:=by
 go_enter func198,ntmps198;go_wp2_with (go_at_call 240; refine (XR s z hs hz _).mono ?_; rintro e w' ⟨rfl,rfl⟩);go_ret;exact⟨rfl,rfl⟩
theorem K3(s z:ByteArray)(hs:s.size<=140737488355328)(hz:z.size<=140737488355328)(w:World)(v1:Np.aD s.data.toList=true)(v2:Np.aD z.data.toList=true) :
 Calls prog 135 #[.string s,.string z] w λe w'=>e = .returned (.tuple #[.bool (Np.bp s.data.toList z.data.toList),.int .i64 0])/\Below w.heap.size w w':=by
 rw[<-aKX];have V1:=jq v1;have V2:=jq v2;clear v1 v2;go_enter func135,ntmps135;go_wp2_with (first
  | (go_at_call 96; have v1:=V1.out; clear V1; refine (valid_any s hs _).mono ?_; rintro e w1 ⟨rfl,hb⟩; rw[v1]; clear v1; have ay:=jq hb; clear hb)
  | (go_at_call 96; have v2:=V2.out; clear V2; refine (valid_any z hz _).mono ?_; rintro e w2 ⟨rfl,hb⟩; rw[v2]; clear v2; have al:=jq hb; clear hb)
  | (go_at_call 198; refine (XQ s z hs hz _).mono ?_; rintro e w3 ⟨rfl,rfl⟩))
 all_goals
  go_ret2;refine⟨azQ ?_,ay.out.trans (al.out.mono ay.out.size)⟩;simp_all [Np.K0,dQ]
 ·rename_i _ h1 h2 h3 _;have e1:(s.data == z.data)=false:=by simpa using h1
  have e2:(z.data.toList == [46])=false:=by simpa using h2
  have e3:s.data[s.size - z.size - 1]?=some s[s.size - z.size - 1]:=pQ (by simp; omega);rw[e1,e2,e3,Bool.eq_iff_iff];simp;omega
 ·intros; omega
theorem Sa(s1 s2:ByteArray)(aX:s1.size<=140737488355328)(eW:s2.size<=140737488355328)(t1 t2:Int)(n1:Np.aD s1.data.toList=true)(n2:Np.aD s2.data.toList=true)(w:World) :
 Calls prog 164 #[.string s1,.int .i64 t1,.string s2,.int .i64 t2] w
  λe w'=>e = .returned (.int .i64 (Np.eS (s1.data.toList,t1) (s2.data.toList,t2)))/\Below w.heap.size w w':=by
 have hv:cmpVal s1.data.toList s2.data.toList = .tuple #[.int .i64 (Np.aI s1.data.toList s2.data.toList),.int .i64 0]:=by rw[cmpVal,n1,n2]; rfl
 have HV:=jq hv;clear hv n1 n2;by_cases h:s1.data.toList=s2.data.toList
 ·have he:(!s1.toList == s2.toList)=false:=by rw[dQ,dQ,h]; simp
  have hc:Np.eS (s1.data.toList,t1) (s2.data.toList,t2)=Np.cJ t1 t2:=by unfold Np.eS; dsimp only; rw[h,Np.AU,Qc (by simp)]
  rw[hc];clear hc h;go_enter func164,ntmps164;go_wp2_with (go_at_call 58; refine (AS _ _ _).mono ?_; rintro e w' ⟨rfl,rfl⟩);go_ret;exact⟨rfl,vQ _ _⟩
 ·have he:(!s1.toList == s2.toList)=true:=by rw[dQ,dQ]; simpa using h
  have hc:Np.eS (s1.data.toList,t1) (s2.data.toList,t2)=Np.aI s1.data.toList s2.data.toList:=by unfold Np.eS; dsimp only; rw[Qb (λe=>h (Np.DF e))]
  rw[hc];clear hc h;go_enter func164,ntmps164;go_wp2_with fail;refine (compare_any s1 s2 aX eW _).mono ?_;rintro e w1 ⟨rfl,hb⟩;rw[HV.out];have HB:=jq hb;clear hb;go_wp2_with fail;go_ret;exact⟨rfl,HB.out⟩
theorem FL{s:Np.DSet}(h:Np.dX s=true):Np.aD s.name=true:=by
 unfold Np.dX at h;simp only[Bool.and_eq_true] at h;exact h.1.1.1.1.1.1
end
namespace Np
def cL(z:Zone)(n:List UInt8):Bool:=z.sets.any λx=>decide (x.set.type=2)&&!(x.set.name == z.apex)&&x.set.name == n
theorem Is{z:Zone}{n:List UInt8} : cL z n=true↔∃ x∈z.sets,x.set.type=2/\x.set.name≠z.apex/\x.set.name=n:=by
 unfold cL;rw[List.any_eq_true];constructor
 ·rintro⟨x,hx,h⟩;simp only[Bool.and_eq_true,Qa,Bool.not_eq_true',beq_eq_false_iff_ne,beq_iff_eq] at h;exact⟨x,hx,h.1.1,h.1.2,h.2⟩
 ·rintro⟨x,hx,h1,h2,h3⟩;refine⟨x,hx,?_⟩;rw[h3] at h2 |-;simp[h1,h2]
def om(C:List UInt8->Bool):List UInt8->List Signed->List (List UInt8)
 | _,[]=>[]
 | cut,x::r=>dI C cut x.set.name::om C (dI C cut x.set.name) r
def dT(z:Zone):List (List UInt8):=om (cL z) [] z.sets
theorem M8(C:List UInt8->Bool):∀ (cut:List UInt8) (l:List Signed),(om C cut l).length=l.length
 | _,[]=>rfl
 | cut,x::r=>by rw[om,List.length_cons,M8,List.length_cons]
theorem tr(z:Zone):(dT z).length=z.sets.length:=M8 _ _ _
structure InOrder(z:Zone):Prop where
 order:(z.sets.map (·.set)).Pairwise λa b=>gK a b<0
 name:∀ x∈z.sets,x.set.name≠[]
 type:∀ x∈z.sets,x.set.type<=8
theorem Ni{a b:DSet}(h:gK a b<0):aI a.name b.name<=0:=by
 rw[DG] at h;split at h
 ·omega
 ·rename_i h0; have:=Decidable.not_not.1 h0; omega
theorem Nj{a b:DSet}(h:gK a b<0)(he:a.name=b.name):a.type<b.type:=by
 rw[DG,he,AU,Qc (by simp)] at h;unfold cJ at h;split at h
 ·assumption
 ·split at h <;> omega
theorem InOrder.names{z:Zone}(h:InOrder z){i j:Nat}(dU:i<j)(hj:j<z.sets.length):aI (z.sets[i]'(by omega)).set.name (z.sets[j]).set.name<=0:=by
 have:=List.pairwise_iff_getElem.1 h.order i j (by simp; omega) (by simpa using hj) dU
 rw[List.getElem_map,List.getElem_map] at this;exact Ni this
theorem InOrder.types{z:Zone}(h:InOrder z){i j:Nat}(dU:i<j)(hj:j<z.sets.length)(he:(z.sets[i]'(by omega)).set.name=(z.sets[j]).set.name):(z.sets[i]'(by omega)).set.type<(z.sets[j]).set.type:=by
 have:=List.pairwise_iff_getElem.1 h.order i j (by simp; omega) (by simpa using hj) dU
 rw[List.getElem_map,List.getElem_map] at this;exact Nj this he
theorem ajK{a b c:List UInt8}(h1:aI a b<=0)(h2:aI b c<=0)(he:a=c):b=a:=by
 subst he;by_cases h:aI a b<0
 ·have:=fd.anti _ _ h; omega
 ·exact (fd.zero _ _ (by omega)).symm
theorem AW{z:Zone}(h:InOrder z):∀ c,cL z c=true->c≠[]:=λc hc=>by
 obtain⟨x,hx,_,_,rfl⟩:=Is.1 hc;exact h.name x hx
theorem Nt{z:Zone}(h:InOrder z){c:List UInt8}(hc:cL z c=true){i:Nat}(hi:i<z.sets.length)(aa:aI c (z.sets[i]).set.name<0):∃ j,∃ hj:j<i,(z.sets[j]'(by omega)).set.name=c:=by
 obtain⟨x,hx,_,_,rfl⟩:=Is.1 hc;obtain⟨j,hj,rfl⟩:=nQ.1 hx;refine⟨j,?_,rfl⟩;refine Nat.lt_of_not_le λdU=>?_;rcases Nat.lt_or_eq_of_le dU with hl | rfl
 ·have h1:=h.names hl hj;have h2:=fd.anti _ _ aa;omega
 ·rw[AU] at aa; omega
theorem M9{z:Zone}(h:InOrder z):∀ (l:List Signed) (i:Nat) (cut:List UInt8),z.sets.drop i=l->i<=z.sets.length->(i=0/\cut = []\/∃ hi:i - 1<z.sets.length,0<i/\jl (cL z) (z.sets[i - 1]).set.name cut)->∀ (k:Nat) (x:Signed) (b:List UInt8),l[k]?=some x->(om (cL z) cut l)[k]?=some b->jl (cL z) x.set.name b
 | [],_,_,_,_,_,k,x,b,hx,_=>by simp at hx
 | y::l,i,cut,hd,hi,hc,k,x,b,hx,hb=>by
   have dV:i<z.sets.length:=by
    have:=Qd List.length hd
    simp at this; omega
   have hy:z.sets[i]=y:=by
    have:=List.getElem?_drop (xs:=z.sets) (i:=i) (j:=0)
    rw[hd,Nat.add_zero,aQ dV] at this;simpa using this.symm
   have hd':z.sets.drop (i+1)=l:=by
    have:=Qd (List.drop 1) hd
    rw[List.drop_drop] at this;simpa using this
   have PE:jl (cL z) y.set.name (dI (cL z) cut y.set.name):=by
    rcases hc with ⟨rfl,rfl⟩ | ⟨h1,h0,hc⟩
    ·refine aHK (AW h) (λc tG aa=>?_);rw[<-hy] at aa;obtain⟨j,hj,_⟩:=Nt h tG dV aa;omega
    ·refine aHX (AW h) hc ?_ (λc tG aa=>?_)
     ·rw[<-hy]; exact h.names (by omega) dV
     ·rw[<-hy] at aa;obtain⟨j,hj,YR⟩:=Nt h tG dV aa;rw[<-YR];rcases Nat.lt_or_eq_of_le (show j<=i - 1 by omega) with hl | he
      ·exact h.names hl h1
      ·subst he;rw[AU]; exact Int.le_refl 0
   cases k with
   | zero=>
    simp only[om,List.getElem?_cons_zero,Option.some.injEq] at hx hb;rw[<-hx,<-hb]; exact PE
   | succ k=>
    simp only[om,List.getElem?_cons_succ] at hx hb;exact M9 h l (i+1) _ hd' dV (.inr ⟨by simpa using dV,by omega,by simpa [hy] using PE⟩) k x b hx hb
theorem Vq{z:Zone}(h:InOrder z){i:Nat}{x:Signed}{b:List UInt8}(hx:z.sets[i]?=some x)(hb:(dT z)[i]?=some b):jl (cL z) x.set.name b:=
 M9 h z.sets 0 [] rfl (jQ _) (.inl ⟨rfl,rfl⟩) i x b hx hb
theorem Vr{z:Zone}(h:InOrder z){B:List (List UInt8)}(hl:B.length=z.sets.length)(hB:∀ (i:Nat) (x:Signed) (b:List UInt8),z.sets[i]?=some x->B[i]?=some b->jl (cL z) x.set.name b):B=dT z:=by
 refine List.ext_getElem (hl.trans (tr z).symm) λi h1 h2=>?_;have hi:i<z.sets.length:=by omega
 exact jl.unique (AW h) (hB i _ _ (aQ hi) (aQ h1)) (Vq h (aQ hi) (aQ h2))
def jT(t:Int)(at':Bool):Bool:=if t=3\/t=6 then !at' else if t=4\/t=7 then at' else true
structure SigOk(apex:List UInt8)(l:List Sig)(i:Nat)(g:Sig):Prop where
 zone:g.zone=apex
 key:1<=g.key/\g.key<=1000000
 alg:1<=g.alg/\g.alg<=3
 win:0<=g.frm/\g.frm<=g.til/\g.til<=20000000
 same:∀ a,l[0]?=some a->g.frm=a.frm/\g.til=a.til
 up:∀ p,l[i - 1]?=some p->0<i->p.key<g.key
def gr(apex:List UInt8)(l:List Sig):Prop:=l.length<=6/\∀ i g,l[i]?=some g->SigOk apex l i g
def kT(x:DSet)(b:List UInt8):Prop:=(b = []->x.type≠6)/\(b≠[]->b=x.name->x.type=2\/x.type=6\/x.type=8\/x.type=1)/\(b≠[]->b≠x.name->x.type=1)
structure VZone(z:Zone):Prop where
 right:eN z=true
 few:z.sets.length<=20000
 start:∃ x∈z.sets,x.set.name=z.apex/\x.set.type=4
 server:∃ x∈z.sets,x.set.name=z.apex/\x.set.type=2
 fits:∀ x∈z.sets,jT x.set.type (x.set.name == z.apex)=true
 aliasBefore:∀ i (hi:i+1<z.sets.length),(z.sets[i+1]).set.type=3->(z.sets[i]).set.name≠(z.sets[i+1]).set.name
 aliasBehind:∀ i (hi:i+1<z.sets.length),(z.sets[i]).set.type=3->(z.sets[i+1]).set.name=(z.sets[i]).set.name->(z.sets[i+1]).set.type=8
 cuts:∀ (i:Nat) (x:Signed) (b:List UInt8),z.sets[i]?=some x->(dT z)[i]?=some b->kT x.set b
 sigs:∀ (i:Nat) (x:Signed) (b:List UInt8),z.sets[i]?=some x->(dT z)[i]?=some b->b≠[]->x.set.type=2\/x.set.type=1->x.sigs = []
 form:∀ x∈z.sets,gr z.apex x.sigs
theorem VZone.inOrder{z:Zone}(h:eN z=true):InOrder z:=by
 unfold eN at h;simp only[Bool.and_eq_true] at h;have aq:∀ (l:List Signed) (p:Option DSet),jU z.apex p l=true->(p.toList++l.map (·.set)).Pairwise (λa b=>gK a b<0)/\∀ x∈l,dX x.set=true:=by
  intro l
  induction l with
  | nil=>intro p _; cases p <;> simp
  | cons x l ih=>
   intro p h;unfold jU at h;rw[Bool.and_eq_true,Bool.and_eq_true,Bool.and_eq_true,Bool.and_eq_true] at h;obtain⟨i1,i2⟩:=ih (some x.set) h.2;have i1:(x.set::l.map (·.set)).Pairwise (λa b=>gK a b<0):=i1;refine⟨?_,λy hy=>?_⟩
   ·cases p with
    | none=>exact i1
    | some q=>
     have h2:gK q x.set<0:=by simpa using h.1.2
     refine List.pairwise_cons.2 ⟨λy hy=>?_,i1⟩;rcases List.mem_cons.1 hy with e | hy
     ·rw[e]; exact h2
     ·have h3:=(List.pairwise_cons.1 i1).1 y hy;rw[In] at h2 h3 |-;exact zm.trans _ _ _ h2 h3
   ·rcases List.mem_cons.1 hy with e | hy
    ·subst e; exact h.1.1.2
    ·exact i2 y hy
 obtain⟨h1,h2⟩:=aq _ none h.2;refine⟨h1,λx hx=>?_,λx hx=>?_⟩
 ·have hv:=(zq (h2 x hx)).1;intro e;rw[e] at hv;exact absurd hv (by decide)
 ·exact (zq (h2 x hx)).2.2.1
def nM(l:List Signed):List UInt8:=l.foldl (λa x=>if x.set.type=3 then x.set.name else a) []
structure RZoneOk(z:Zone):Prop where
 right:eN z=true
 few:z.sets.length<=20000
 start:∃ x∈z.sets,x.set.name=z.apex/\x.set.type=4
 server:∃ x∈z.sets,x.set.name=z.apex/\x.set.type=2
 fits:∀ x∈z.sets,jT x.set.type (x.set.name == z.apex)=true
 three:∀ i (hi:i+1<z.sets.length),(z.sets[i]).set.name=(z.sets[i+1]).set.name->(z.sets[i+1]).set.type≠3/\(nM (z.sets.take (i+2))=(z.sets[i+1]).set.name->(z.sets[i+1]).set.type=8)
 cuts:∀ (i:Nat) (x:Signed) (b:List UInt8),z.sets[i]?=some x->(dT z)[i]?=some b->kT x.set b
 sigs:∀ (i:Nat) (x:Signed) (b:List UInt8),z.sets[i]?=some x->(dT z)[i]?=some b->b≠[]->x.set.type=2\/x.set.type=1->x.sigs = []
 form:∀ x∈z.sets,gr z.apex x.sigs
theorem Kl(l:List Signed)(x:Signed):nM (l ++ [x])=if x.set.type=3 then x.set.name else nM l:=by simp[nM]
theorem Qq:∀ (l:List Signed) (a:List UInt8),l.foldl (λa x=>if x.set.type=3 then x.set.name else a) a=a\/∃ (j:Nat) (hj:j<l.length),(l[j]).set.type=3/\(l[j]).set.name=l.foldl (λa x=>if x.set.type=3 then x.set.name else a) a
 | [],_=>.inl rfl
 | x::l,a=>by
   rw[List.foldl_cons];rcases Qq l (if x.set.type=3 then x.set.name else a) with h | ⟨j,hj,h1,h2⟩
   ·rw[h];split
    ·rename_i ht; exact .inr ⟨0,by simp,ht,rfl⟩
    ·exact .inl rfl
   ·exact .inr ⟨j+1,by simpa using hj,h1,h2⟩
theorem afK(l:List Signed):nM l = []\/∃ (j:Nat) (hj:j<l.length),(l[j]).set.type=3/\(l[j]).set.name=nM l:=Qq l []
theorem aNK(z:Zone):VZone z↔RZoneOk z:=by
 constructor
 ·intro h;have ho:=VZone.inOrder h.right;refine⟨h.right,h.few,h.start,h.server,h.fits,λi hi he=>?_,h.cuts,h.sigs,h.form⟩;have h3:(z.sets[i+1]).set.type≠3:=λht=>h.aliasBefore i hi ht he;refine⟨h3,λhl=>?_⟩;rcases afK (z.sets.take (i+2)) with e | ⟨j,hj,j1,j2⟩
  ·rw[e] at hl;exact absurd hl.symm (ho.name _ (List.getElem_mem hi))
  ·rw[List.getElem_take] at j1 j2;rw[hl] at j2;have tM:j<i+2:=by have:=hj; rw[List.length_take] at this; omega
   have pD:j≠i+1:=λe=>by subst e; exact h3 j1
   have nE:j+1<z.sets.length:=by omega
   have BZ:(z.sets[j+1]).set.name=(z.sets[j]).set.name:=by
    rcases Nat.lt_or_eq_of_le (show j+1<=i+1 by omega) with hl | BM
    ·exact ajK (ho.names (by omega) nE) (ho.names hl hi) j2
    ·have:j=i:=by omega
     subst this;exact he.symm
   have h8:=h.aliasBehind j nE j1 BZ;rcases Nat.lt_or_eq_of_le (show j+1<=i+1 by omega) with hl | BM
   ·have h9:=ho.types hl hi (BZ.trans j2);have ou:=ho.type _ (List.getElem_mem hi);omega
   ·have:j=i:=by omega
    subst this;exact h8
 ·intro h;have ho:=VZone.inOrder h.right;refine⟨h.right,h.few,h.start,h.server,h.fits,λi hi ht he=>?_,λi hi ht he=>?_,h.cuts,h.sigs,h.form⟩
  ·exact (h.three i hi he).1 ht
  ·obtain⟨h1,h2⟩:=h.three i hi he.symm;refine h2 ?_;have e1:z.sets.take (i+2)=z.sets.take (i+1) ++ [z.sets[i+1]]:=fQ hi;have e2:z.sets.take (i+1)=z.sets.take i ++ [z.sets[i]]:=fQ (by omega);rw[e1,Kl,Qc h1,e2,Kl,Qb ht];exact he.symm
end Np
namespace Np
variable {α:Type} [DecidableEq α]
def jR(o:List α)(x:α):List α:=if x∈o then o else o ++ [x]
def cx(l:List α):List α:=l.foldl jR []
theorem ahX{o:List α}{x y:α} : y∈jR o x↔y∈o\/y=x:=by
 unfold jR;split
 ·rename_i h;constructor
  ·exact .inl
  ·rintro (h1 | rfl); exact h1; exact h
 ·simp
theorem akX{o:List α}{x:α}(h:o.Nodup):(jR o x).Nodup:=by
 unfold jR;split
 ·exact h
 ·rename_i hx;exact List.nodup_append.2 ⟨h,by simp,λa ha b hb=>by rw[List.mem_singleton] at hb; rintro rfl; exact hx (hb ▸ ha)⟩
theorem Qu:∀ (l o:List α) (y:α),y∈l.foldl jR o↔y∈o\/y∈l
 | [],o,y=>by simp
 | x::l,o,y=>by
   rw[List.foldl_cons,Qu l,ahX,List.mem_cons,or_assoc]
theorem Qy:∀ (l o:List α),o.Nodup->(l.foldl jR o).Nodup
 | [],_,h=>h
 | _::l,_,h=>Qy l _ (akX h)
theorem yW{l:List α}{y:α} : y∈cx l↔y∈l:=by unfold cx; rw[Qu]; simp
theorem uq(l:List α):(cx l).Nodup:=Qy l [] List.nodup_nil
theorem K5(l:List α)(x:α):cx (l ++ [x])=jR (cx l) x:=by simp[cx]
theorem K4(l m:List α):cx (l++m)=m.foldl jR (cx l):=by simp[cx]
theorem Ig{o:List α}{x:α}(h:x∈o):jR o x=o:=Qb h
theorem NO:∀ (m o:List α),(∀ x∈m,x∈o)->m.foldl jR o=o
 | [],_,_=>rfl
 | _::m,o,h=>by rw[List.foldl_cons,Ig (h _ (by simp)),NO m o (λy hy=>h y (mQ _ hy))]
theorem aKY(a b c:List α)(h:∀ x∈b,x∈a):cx (a++b++c)=cx (a++c):=by
 rw[K4,K4,K4,NO b _ (λx hx=>yW.2 (h x hx))]
theorem zp(l:List α):(cx l).length<=l.length:=by
 have:∀ (l o:List α),(l.foldl jR o).length<=o.length+l.length:=by
  intro l
  induction l with
  | nil=>intro o; simp
  | cons x l ih=>
   intro o;have h:=ih (jR o x);have h2:(jR o x).length<=o.length+1:=by unfold jR; split <;> simp
   rw[List.foldl_cons,List.length_cons];omega
 have h:=this l [];simpa [cx] using h
omit [DecidableEq α] in
theorem KU{c:α->α->Int}(hc:TO c):∀ (l m:List α),l.Pairwise (λa b=>c a b<0)->m.Pairwise (λa b=>c a b<0)->(∀ x,x∈l↔x∈m)->l=m
 | [],[],_,_,_=>rfl
 | [],b::m,_,_,h=>by have:=(h b).2 (by simp); cases this
 | a::l,[],_,_,h=>by have:=(h a).1 (by simp); cases this
 | a::l,b::m,hl,hm,h=>by
   obtain⟨l1,l2⟩:=List.pairwise_cons.1 hl;obtain⟨m1,m2⟩:=List.pairwise_cons.1 hm;have e:a=b:=by
    rcases List.mem_cons.1 ((h a).1 (by simp)) with e | h1
    ·exact e
    ·rcases List.mem_cons.1 ((h b).2 (by simp)) with e | h2
     ·exact e.symm
     ·have:=hc.anti _ _ (l1 b h2)
      have:=m1 a h1
      omega
   subst e;rw[KU hc l m l2 m2 (λx=>by
    constructor
    ·intro hx;rcases List.mem_cons.1 ((h x).1 (mQ _ hx)) with e | h1
     ·subst e; have:=l1 x hx; rw[hc.self] at this; omega
     ·exact h1
    ·intro hx;rcases List.mem_cons.1 ((h x).2 (mQ _ hx)) with e | h1
     ·subst e; have:=m1 x hx; rw[hc.self] at this; omega
     ·exact h1)]
def uw(l:List (List UInt8)):List (List UInt8):=l.mergeSort λa b=>!decide (aI b a<0)
theorem KL(l:List (List UInt8)):(uw l).Perm l:=List.mergeSort_perm _ _
theorem KM{l:List (List UInt8)}(h:l.Nodup):(uw l).Pairwise λa b=>aI a b<0:=by
 have hs:(uw l).Pairwise λa b=>(!decide (aI b a<0))=true:=List.pairwise_mergeSort (le:=λa b=>!decide (aI b a<0)) (λx y z=>agX fd x y z) (λx y=>agK fd x y) l;have hn:(uw l).Nodup:=(KL l).nodup_iff.2 h;refine (hs.and hn).imp λ{a b} ⟨h1,h2⟩=>?_;have h3:¬ aI b a<0:=by simpa using h1
 refine Int.lt_of_not_ge λh4=>?_;by_cases h5:0<aI a b
 ·exact h3 (fd.anti' _ _ h5)
 ·exact h2 (fd.zero _ _ (by omega))
def eD:List (List UInt8)->List UInt8->List (List UInt8)
 | [],a=>[a]
 | x::l,a=>if aI x a<0 then x::eD l a else if x=a then x::l else a::x::l
theorem QR:∀ (l:List (List UInt8)) (a:List UInt8),l.Pairwise (λa b=>aI a b<0)->(eD l a).Pairwise (λa b=>aI a b<0)/\∀ y,y∈eD l a↔y∈l\/y=a
 | [],a,_=>⟨by simp[eD],λy=>by simp[eD]⟩
 | x::l,a,h=>by
   obtain⟨h1,h2⟩:=List.pairwise_cons.1 h;rw[eD];split
   ·rename_i aa;obtain⟨i1,i2⟩:=QR l a h2;refine⟨List.pairwise_cons.2 ⟨λy hy=>?_,i1⟩,λy=>?_⟩
    ·rcases (i2 y).1 hy with hy | rfl
     ·exact h1 y hy
     ·exact aa
    ·rw[List.mem_cons,i2,List.mem_cons,or_assoc]
   ·rename_i aa;split
    ·rename_i he;subst he;refine⟨h,λy=>?_⟩;constructor
     ·exact .inl
     ·rintro (hy | rfl); exact hy; simp
    ·rename_i hne;have Oq:aI a x<0:=by
      by_cases h0:0<aI x a
      ·exact fd.anti' _ _ h0
      ·exact absurd (fd.zero _ _ (by omega)) hne
     refine⟨List.pairwise_cons.2 ⟨λy hy=>?_,h⟩,λy=>?_⟩
     ·rcases List.mem_cons.1 hy with e | hy
      ·subst e; exact Oq
      ·exact fd.trans _ _ _ Oq (h1 y hy)
     ·rw[List.mem_cons,Or.comm]
end Np
section
open Go.RowKit
def fj(_:World)(_:Nat)(e:List Value)(g:Np.Sig):Prop:=∃ s:ByteArray,s.data.toList=g.zone/\s.size<=140737488355328/\e = [.string s,.int .i64 g.key,.int .i64 g.alg,.int .i64 g.frm,.int .i64 g.til,.int .u64 g.sum]
theorem el:dw fj:=λ_ _ _ _ _ h _=>h
theorem fx:dN fj:=λ_ _ _ _ _ h _=>h
def bC(W:World)(B:Nat)(e:List Value)(x:Np.Signed):Prop:=∃ (s:ByteArray) (v u:Value),s.data.toList=x.set.name/\s.size<=140737488355328/\SlR cr 3 W B v x.set.data/\SlR fj 6 W B u x.sigs/\e = [.string s,.int .i64 x.set.type,.int .i64 x.set.life,v,u]
theorem aN:dw bC:=λ_ _ _ _ _ ⟨s,v,u,h1,h2,h3,h4,h5⟩ hb=>⟨s,v,u,h1,h2,h3.keep cB hb,h4.keep el hb,h5⟩
theorem bN:dN bC:=λ_ _ _ _ _ ⟨s,v,u,h1,h2,h3,h4,h5⟩ hb=>⟨s,v,u,h1,h2,h3.more cZ hb,h4.more fx hb,h5⟩
def U2(W:World)(B:Nat)(e:List Value)(z:Np.Zone):Prop:=∃ (s:ByteArray) (v:Value),s.data.toList=z.apex/\s.size<=140737488355328/\SlR bC 5 W B v z.sets/\e = [.string s,v]
theorem SlR.later{α:Type}{R:World->Nat->List Value->α->Prop}{sz:Nat}{w w':World}{v:Value}{xs:List α}(hk:dw R)(hm:dN R)(h:SlR R sz w w.heap.size v xs)(hb:Below w.heap.size w w'):SlR R sz w' w'.heap.size v xs:=(h.keep hk hb).more hm hb.size
theorem Iu{w:World}{B:Nat}{v:Value}{xs:List Np.Datum}(h:SlR cr 3 w B v xs){k:Nat}{x:Np.Datum}(hx:xs[k]?=some x):∃ (b o c:Nat) (s:ByteArray),v = .slice (some ⟨b,o,none⟩) xs.length c/\b<B/\xs.length<=c/\s.data.toList=x.text/\s.size<=140737488355328/\
 w.cell? ⟨b,o+k * 3,none⟩=some (.string s)/\w.cell? ⟨b,o+k * 3+1,none⟩=some (.int .i64 x.n)/\w.cell? ⟨b,o+k * 3+2,none⟩=some (.int .i64 x.m):=by
 obtain⟨A,c,rfl,hc,_,he⟩:=h;obtain⟨b,o,e,rfl,hb,_,hce,s,h1,h2,rfl⟩:=he k x hx;exact⟨b,o,c,s,rfl,hb,hc,h1,h2,by have:=hce 0 _ rfl; simpa using this,hce 1 _ rfl,hce 2 _ rfl⟩
theorem eE{w:World}{B:Nat}{v:Value}{xs:List Np.Signed}(h:SlR bC 5 w B v xs){k:Nat}{x:Np.Signed}(hx:xs[k]?=some x):∃ (b o c:Nat) (s:ByteArray) (dv sv:Value),v = .slice (some ⟨b,o,none⟩) xs.length c/\b<B/\xs.length<=c/\s.data.toList=x.set.name/\s.size<=140737488355328/\SlR cr 3 w B dv x.set.data/\SlR fj 6 w B sv x.sigs/\
 w.cell? ⟨b,o+k * 5,none⟩=some (.string s)/\w.cell? ⟨b,o+k * 5+1,none⟩=some (.int .i64 x.set.type)/\w.cell? ⟨b,o+k * 5+2,none⟩=some (.int .i64 x.set.life)/\w.cell? ⟨b,o+k * 5+3,none⟩=some dv/\w.cell? ⟨b,o+k * 5+4,none⟩=some sv:=by
 obtain⟨A,c,rfl,hc,_,he⟩:=h;obtain⟨b,o,e,rfl,hb,_,hce,s,dv,sv,h1,h2,h3,h4,rfl⟩:=he k x hx;exact⟨b,o,c,s,dv,sv,rfl,hb,hc,h1,h2,h3,h4,by have:=hce 0 _ rfl; simpa using this,hce 1 _ rfl,hce 2 _ rfl,hce 3 _ rfl,hce 4 _ rfl⟩
theorem ah{α:Type}{R:World->Nat->List Value->α->Prop}{sz:Nat}{w:World}{B:Nat}{v:Value}{xs:List α}(h:SlR R sz w B v xs):∃ A c,v = .slice A xs.length c/\xs.length<=c/\xs.length<=140737488355328:=by
 obtain⟨A,c,h1,h2,h3,_⟩:=h;exact⟨A,c,h1,h2,h3⟩
end
namespace Np
structure Host where
 name:List UInt8
 addr:Int
 owner:Int
deriving DecidableEq
structure Copy where
 host:Int
 frm:Int
 til:Int
 zone:Zone
deriving DecidableEq
structure Placed where
 host:Int
 zone:Zone
deriving DecidableEq
structure Held where
 zone:List UInt8
 signed:Signed
 fresh:List Span
 spans:List Span
deriving DecidableEq
structure Hist where
 hosts:List Host
 copies:List Copy
 anchor:DSet
 hints:List Int
 drift:Int
 stop:Int
structure WorldP where
 hosts:List Host
 zones:List Placed
 anchor:DSet
 hints:List Int
noncomputable def yes(P:Prop):Bool:=@decide P (Classical.propDecidable P)
theorem bM{P:Prop}(h:P):yes P=true:=by unfold yes; exact @uQ _ (Classical.propDecidable P) h
theorem aJ{P:Prop}(h:¬ P):yes P=false:=by unfold yes; exact @tQ _ (Classical.propDecidable P) h
theorem fz{P:Prop} : yes P=true↔P:=by unfold yes; exact @decide_eq_true_iff _ (Classical.propDecidable P)
theorem uB{P Q:Prop}(h:P↔Q):yes P=yes Q:=by rw[Bool.eq_iff_iff,fz,fz]; exact h
structure HostOk(h:Host):Prop where
 name:aD h.name=true
 wild:eK h.name=false
 addr:1<=h.addr/\h.addr<=1000000
 owner:0<=h.owner/\h.owner<=31
structure VHosts(l:List Host):Prop where
 few:l.length<=64
 each:∀ h∈l,HostOk h
 addrs:(l.map (·.addr)).Nodup
structure VRoot(a:DSet)(hints:List Int):Prop where
 set:dX a=true
 type:a.type=6
 name:a.name = [46]
 few:1<=hints.length/\hints.length<=8
 each:∀ n∈hints,1<=n/\n<=1000000
structure CopyOk(h:Hist)(c:Copy):Prop where
 host:0<=c.host/\c.host<h.hosts.length
 times:0<=c.frm/\c.frm<c.til/\c.til<=h.stop
 zone:VZone c.zone
def gE(c d:Copy):Prop:=c.host=d.host/\c.zone.apex=d.zone.apex/\c.frm<d.til/\d.frm<c.til
structure VHist(h:Hist):Prop where
 stop:1<=h.stop/\h.stop<=10000000
 drift:0<=h.drift/\h.drift<=1000
 hosts:VHosts h.hosts
 root:VRoot h.anchor h.hints
 each:∀ c∈h.copies,CopyOk h c
 apart:h.copies.Pairwise λc d=>¬ gE c d
structure VWorld(w:WorldP):Prop where
 hosts:VHosts w.hosts
 root:VRoot w.anchor w.hints
 each:∀ p∈w.zones,(0<=p.host/\p.host<w.hosts.length)/\VZone p.zone
 apart:w.zones.Pairwise λp q=>¬ (p.host=q.host/\p.zone.apex=q.zone.apex)
def eL(l:List Span):List Span:=(l.mergeSort λa b=>decide (a.frm<=b.frm)).foldl fY []
theorem P3{l m:List Span}(h:l.Perm m)(t:Int):inS l t↔inS m t:=
 ⟨λ⟨s,hs,k⟩=>⟨s,h.mem_iff.1 hs,k⟩,λ⟨s,hs,k⟩=>⟨s,h.mem_iff.2 hs,k⟩⟩
theorem NP{l:List Span}(hf:∀ s∈l,s.frm<s.til)(hs:l.Pairwise λa b=>a.frm<=b.frm):ApartS (l.foldl fY [])/\∀ t,inS (l.foldl fY []) t↔inS l t:=by
 obtain⟨h1,h2⟩:=RK l [] ApartS.nil hf hs (λp hp=>by cases hp);exact⟨h1,λt=>(h2 t).trans ⟨λh=>h.elim (λh=>absurd h (qQ t)) id,.inr⟩⟩
theorem Rw(l:List Span):(l.mergeSort λa b=>decide (a.frm<=b.frm)).Perm l:=List.mergeSort_perm _ _
theorem aFY(l:List Span):(l.mergeSort λa b=>decide (a.frm<=b.frm)).Pairwise λa b=>a.frm<=b.frm:=by
 have:=List.pairwise_mergeSort (le:=λa b:Span=>decide (a.frm<=b.frm)) (λx y z h1 h2=>by simp at *; omega) (λx y=>by simp; omega) l
 exact this.imp λh=>by simpa using h
theorem Kw{l:List Span}(hf:∀ s∈l,s.frm<s.til):ApartS (eL l)/\∀ t,inS (eL l) t↔inS l t:=by
 obtain⟨h1,h2⟩:=NP (λs hs=>hf s ((Rw l).mem_iff.1 hs)) (aFY l);exact⟨h1,λt=>(h2 t).trans (P3 (Rw l) t)⟩
theorem Kv{l m:List Span}(hf:∀ s∈l,s.frm<s.til)(hm:ApartS m)(ht:∀ t,inS m t↔inS l t):m=eL l:=by
 obtain⟨h1,h2⟩:=Kw hf;exact MY _ _ hm h1 λt=>(ht t).trans (h2 t).symm
theorem alQ{l m:List Span}(hf:∀ s∈l,s.frm<s.til)(hp:m.Perm l)(hs:m.Pairwise λa b=>a.frm<=b.frm):m.foldl fY []=eL l:=by
 obtain⟨h1,h2⟩:=NP (λs hs=>hf s (hp.mem_iff.1 hs)) hs;exact Kv hf h1 λt=>(h2 t).trans (P3 hp t)
theorem Qz{l m:List Span}(hl:∀ s∈l,s.frm<s.til)(hm:∀ s∈m,s.frm<s.til)(h:∀ t,inS l t↔inS m t):eL l=eL m:=by
 obtain⟨h1,h2⟩:=Kw hl;exact Kv hm h1 λt=>(h2 t).trans (h t)
def gV(c:Copy):Span:=⟨c.frm,c.til⟩
def nj(l:List Copy)(zone:List UInt8):List Copy:=l.filter λc=>c.zone.apex == zone
def oN(c:Copy):List (Span×Signed):=c.zone.sets.map λs=>(gV c,s)
def dt(l:List Copy)(zone:List UInt8):List (Span×Signed):=(nj l zone).flatMap oN
def fX(ps:List (Span×Signed))(s:Signed):List Span:=(ps.filter λp=>decide (p.2=s)).map (·.1)
def rP(f:List Span->List Span)(zone:List UInt8)(ps:List (Span×Signed)):List Held:=(cx (ps.map (·.2))).map λs=>⟨zone,s,f (fX ps s),[]⟩
theorem FH(ps:List (Span×Signed))(p:Span×Signed)(s:Signed):fX (ps ++ [p]) s=if p.2=s then fX ps s ++ [p.1] else fX ps s:=by
 unfold fX;rw[List.filter_append];by_cases h:p.2=s
 ·simp[h]
 ·simp[h]
theorem aKZ{ps:List (Span×Signed)}{s:Signed}(h:s∉ps.map (·.2)):fX ps s = []:=by
 unfold fX;rw[List.filter_eq_nil_iff.2 (λp hp=>?_)]; rfl;simp only[Qa];rintro rfl;exact h (List.mem_map.2 ⟨p,hp,rfl⟩)
theorem Jm(f:List Span->List Span)(zone:List UInt8)(ps:List (Span×Signed)):(rP f zone ps).length=(cx (ps.map (·.2))).length:=List.length_map _
def pub(l:List Copy)(zone:List UInt8):List Held:=rP eL zone (dt l zone)
def apexes(l:List Copy):List (List UInt8):=uw (cx (l.map (·.zone.apex)))
def ki(l:List Copy)(t:Int):List Copy:=l.filter λc=>decide (c.frm<=t)&&decide (t<c.til)
def im(c:Copy):Placed:=⟨c.host,c.zone⟩
def oT(h:Hist)(t:Int):WorldP:=⟨h.hosts,(ki h.copies t).map im,h.anchor,h.hints⟩
def qW(l:List Copy)(zone:List UInt8)(k:Int):List Span:=eL ((l.filter λc=>decide (c.host=k)&&(c.zone.apex == zone)).map gV)
theorem xb{l:List Copy}{zone:List UInt8}{p:Span×Signed} : p∈dt l zone↔∃ c∈l,c.zone.apex=zone/\p.2∈c.zone.sets/\p.1=gV c:=by
 unfold dt nj oN;simp only[List.mem_flatMap,List.mem_filter,List.mem_map,beq_iff_eq];constructor
 ·rintro⟨c,⟨h1,h2⟩,s,hs,rfl⟩;exact⟨c,h1,h2,hs,rfl⟩
 ·rintro⟨c,h1,h2,h3,h4⟩;exact⟨c,⟨h1,h2⟩,p.2,h3,by rw[<-h4]⟩
theorem E8{ps:List (Span×Signed)}{s:Signed}{x:Span} : x∈fX ps s↔(x,s)∈ps:=by
 unfold fX;simp only[List.mem_map,List.mem_filter,Qa];constructor
 ·rintro⟨p,⟨h1,rfl⟩,rfl⟩; exact h1
 ·intro h; exact⟨(x,s),⟨h,rfl⟩,rfl⟩
def gj(l:List Copy):Prop:=∀ c∈l,c.frm<c.til
theorem VHist.full{h:Hist}(v:VHist h):gj h.copies:=λc hc=>(v.each c hc).times.2.1
theorem FI{l:List Copy}(hl:gj l){zone:List UInt8}{s:Signed} : ∀ x∈fX (dt l zone) s,x.frm<x.til:=λx hx=>by
 obtain⟨c,hc,_,_,h4⟩:=xb.1 (E8.1 hx);have h4:x=gV c:=h4;rw[h4]; exact hl c hc
theorem Kh{l:List Copy}{zone:List UInt8}{s:Signed}{t:Int} : inS (fX (dt l zone) s) t↔∃ c∈l,c.zone.apex=zone/\s∈c.zone.sets/\c.frm<=t/\t<c.til:=by
 constructor
 ·rintro⟨x,hx,h1,h2⟩;obtain⟨c,hc,h3,h4,h5⟩:=xb.1 (E8.1 hx);have h5:x=gV c:=h5;subst h5;exact⟨c,hc,h3,h4,h1,h2⟩
 ·rintro⟨c,hc,h3,h4,h1,h2⟩;exact⟨gV c,E8.2 (xb.2 ⟨c,hc,h3,h4,rfl⟩),h1,h2⟩
theorem E7{l:List Copy}{zone:List UInt8}{s:Signed} : s∈cx ((dt l zone).map (·.2))↔∃ c∈l,c.zone.apex=zone/\s∈c.zone.sets:=by
 rw[yW,List.mem_map];constructor
 ·rintro⟨p,hp,rfl⟩;obtain⟨c,h1,h2,h3,_⟩:=xb.1 hp;exact⟨c,h1,h2,h3⟩
 ·rintro⟨c,h1,h2,h3⟩;exact⟨(gV c,s),xb.2 ⟨c,h1,h2,h3,rfl⟩,rfl⟩
theorem yV{l:List Copy}(hl:gj l){zone:List UInt8}{x:Held}(hx:x∈pub l zone):x.zone=zone/\x.spans = []/\ApartS x.fresh/\(∃ c∈l,c.zone.apex=zone/\x.signed∈c.zone.sets)/\∀ t,inS x.fresh t↔∃ c∈l,c.zone.apex=zone/\x.signed∈c.zone.sets/\c.frm<=t/\t<c.til:=by
 unfold pub rP at hx;obtain⟨s,hs,rfl⟩:=List.mem_map.1 hx;obtain⟨h1,h2⟩:=Kw (FI hl (zone:=zone) (s:=s));exact⟨rfl,rfl,h1,E7.1 hs,λt=>(h2 t).trans Kh⟩
theorem arJ{l:List Copy}{zone:List UInt8}{s:Signed}(h:∃ c∈l,c.zone.apex=zone/\s∈c.zone.sets):∃ x∈pub l zone,x.signed=s:=
 ⟨_,List.mem_map.2 ⟨s,E7.2 h,rfl⟩,rfl⟩
theorem arQ(l:List Copy)(zone:List UInt8):(pub l zone).Pairwise λx y=>x.signed≠y.signed:=by
 unfold pub rP;rw[List.pairwise_map];exact uq _
def cK(a:List UInt8)(l:List Signed):List (List UInt8):=(l.filter λx=>decide (x.set.type=2)&&!(x.set.name == a)).map (·.set.name)
theorem Wg(a:List UInt8)(l:List Signed)(x:Signed):cK a (l ++ [x])=if x.set.type=2/\x.set.name≠a then cK a l ++ [x.set.name] else cK a l:=by
 unfold cK;rw[List.filter_append];by_cases h1:x.set.type=2 <;> by_cases h2:x.set.name=a <;> simp[h1,h2]
theorem Cu{a:List UInt8}{l:List Signed}{c:List UInt8} : c∈cK a l↔cL ⟨a,l⟩ c=true:=by
 unfold cK;rw[Is,List.mem_map];constructor
 ·rintro⟨x,hx,rfl⟩;obtain⟨h1,h2⟩:=List.mem_filter.1 hx;simp only[Bool.and_eq_true,Qa,Bool.not_eq_true',beq_eq_false_iff_ne] at h2;exact⟨x,h1,h2.1,h2.2,rfl⟩
 ·rintro⟨x,hx,h1,h2,rfl⟩;exact⟨x,List.mem_filter.2 ⟨hx,by simpa [h1] using h2⟩,rfl⟩
theorem Nx{z:Zone}(h:InOrder z):(cK z.apex z.sets).Pairwise λa b=>aI a b<0:=by
 unfold cK;rw[List.pairwise_map];have h1:(z.sets.filter λx=>decide (x.set.type=2)&&!(x.set.name == z.apex)).Pairwise λa b=>gK a.set b.set<0:=by
  have:=h.order
  rw[List.pairwise_map] at this;exact this.sublist List.filter_sublist
 refine h1.imp_of_mem λ{a b} ha hb aa=>?_;obtain⟨_,ha⟩:=List.mem_filter.1 ha;obtain⟨_,hb⟩:=List.mem_filter.1 hb;simp only[Bool.and_eq_true,Qa] at ha hb;rcases Int.lt_or_eq_of_le (Ni aa) with h2 | h2
 ·exact h2
 ·have:=Nj aa (fd.zero _ _ h2)
  omega
def oF(out:List (List UInt8))(c:List UInt8):List (List UInt8):=
 match out.getLast? with
 | none=>[c]
 | some h=>if bp c h=true then out else out ++ [c]
def dZ(l:List (List UInt8)):List (List UInt8):=l.foldl oF []
theorem OO(l:List (List UInt8))(c:List UInt8):dZ (l ++ [c])=oF (dZ l) c:=by simp[dZ]
structure AJ(l out:List (List UInt8)):Prop where
 sub:out.Sublist l
 above:∀ c∈l,∃ h∈out,bp c h=true
 top:∀ h∈out,∀ c∈l,bp h c=true->c=h
theorem YJ{l out:List (List UInt8)}{c:List UInt8}(hne:∀ x∈l ++ [c],x≠[])(hs:(l ++ [c]).Pairwise λa b=>aI a b<0)(h:AJ l out):AJ (l ++ [c]) (oF out c):=by
 obtain⟨h1,_,h3⟩:=List.pairwise_append.1 hs;have aa:∀ x∈l,aI x c<0:=λx hx=>h3 x hx c (by simp);have hout:∀ x∈out,x∈l:=λx hx=>h.sub.subset hx;have Yn:c≠[]:=hne c (by simp);have PG:∀ x∈l,bp x c=true->False:=λx hx hu=>by
  have a1:=FJ Yn hu;have a2:=fd.anti _ _ (aa x hx);omega
 unfold oF
 cases hg:out.getLast? with
 | none=>
  have ho:out = []:=by simpa using hg
  have hl:l = []:=by
   cases l with
   | nil=>rfl
   | cons y l=>obtain⟨q,hq,_⟩:=h.above y (by simp); rw[ho] at hq; cases hq
  subst ho hl;refine⟨by simp,λx hx=>⟨c,by simp,?_⟩,λx hx y hy _=>?_⟩
  ·simp at hx; subst hx; exact FK _
  ·simp at hx hy; rw[hx,hy]
 | some q=>
  have hq:q∈out:=List.mem_of_getLast? hg;dsimp only;split
  ·rename_i hu;refine⟨h.sub.trans (List.sublist_append_left _ _),λx hx=>?_,λx hx y hy bB=>?_⟩
   ·rcases List.mem_append.1 hx with hx | hx
    ·exact h.above x hx
    ·simp at hx; subst hx; exact⟨q,hq,hu⟩
   ·rcases List.mem_append.1 hy with hy | hy
    ·exact h.top x hx y hy bB
    ·simp at hy; subst hy; exact (PG x (hout x hx) bB).elim
  ·rename_i hu;refine⟨List.Sublist.append h.sub (List.Sublist.refl _),λx hx=>?_,λx hx y hy bB=>?_⟩
   ·rcases List.mem_append.1 hx with hx | hx
    ·obtain⟨t,ht,lw⟩:=h.above x hx;exact⟨t,List.mem_append_left _ ht,lw⟩
    ·simp at hx; subst hx; exact⟨x,by simp,FK _⟩
   ·rcases List.mem_append.1 hx with dW | dW
    ·rcases List.mem_append.1 hy with sA | sA
     ·exact h.top x dW y sA bB
     ·rw[List.mem_singleton] at sA; rw[sA] at bB; exact (PG x (hout x dW) bB).elim
    ·simp at dW; subst dW;rcases List.mem_append.1 hy with hy | hy
     ·exfalso;obtain⟨t,ht,lw⟩:=h.above y hy;have PC:t≠[]:=hne t (List.mem_append_left _ (hout t ht));have ZW:y≠[]:=hne y (List.mem_append_left _ hy);have EU:=K2 ZW PC bB lw;by_cases JX:t=q
      ·subst JX; exact hu EU
      ·obtain⟨o',ho'⟩:=List.getLast?_eq_some_iff.1 hg;have Pw:out.Pairwise λa b=>aI a b<0:=h1.sublist h.sub;rw[ho'] at Pw ht;have PD:t∈o':=by
        rcases List.mem_append.1 ht with ht | ht
        ·exact ht
        ·simp at ht; exact absurd ht JX
       have ui:=(List.pairwise_append.1 Pw).2.2 t PD q (by simp);have Zq:=aa q (hout q hq);have B6:=K1 PC EU (Int.le_of_lt ui) (Int.le_of_lt Zq);exact JX (h.top q hq t (hout t (by rw[ho']; exact List.mem_append_left _ PD)) B6)
     ·simp at hy; exact hy
theorem OQ:∀ (r p:List (List UInt8)),(∀ x∈p++r,x≠[])->(p++r).Pairwise (λa b=>aI a b<0)->AJ p (dZ p)->AJ (p++r) (dZ (p++r))
 | [],p,_,_,h=>by rw[List.append_nil]; exact h
 | c::r,p,hne,hs,h=>by
   have e:p++c::r=(p ++ [c])++r:=by simp
   rw[e] at hne hs |-;refine OQ r (p ++ [c]) hne hs ?_;rw[OO];exact YJ (λx hx=>hne x (List.mem_append_left _ hx)) (List.pairwise_append.1 hs).1 h
theorem YI(l:List (List UInt8))(hne:∀ x∈l,x≠[])(hs:l.Pairwise λa b=>aI a b<0):AJ l (dZ l):=
 OQ l [] hne hs ⟨List.Sublist.refl _,λc hc=>(by cases hc),λh hh=>(by cases hh)⟩
theorem OP{z:Zone}(h:InOrder z):MN (cL z) (dZ (cK z.apex z.sets))/\∀ c,cL z c=true->(∀ d,cL z d=true->bp c d=true->d=c)->c∈dZ (cK z.apex z.sets):=by
 have hne:∀ x∈cK z.apex z.sets,x≠[]:=λx hx=>AW h x (Cu.1 hx);have ho:=YI _ hne (Nx h);refine⟨⟨λc hc=>⟨Cu.1 (ho.sub.subset hc),λd hd hu=>ho.top c hc d (Cu.2 hd) hu⟩,(Nx h).sublist ho.sub⟩,λc hc ht=>?_⟩;obtain⟨t,h1,h2⟩:=ho.above c (Cu.2 hc);rw[<-ht t (Cu.1 (ho.sub.subset h1)) h2];exact h1
def jE(H:List (List UInt8))(k:Nat)(n:List UInt8):List UInt8:=if 0<k/\bp n (H[k - 1]?.getD [])=true then H[k - 1]?.getD [] else []
theorem avK{z:Zone}(h:InOrder z){n:List UInt8}{k:Nat}(hk:k<=(dZ (cK z.apex z.sets)).length)(h1:∀ j x,j<k->(dZ (cK z.apex z.sets))[j]?=some x->aI x n<=0)(h2:∀ j x,k<=j->(dZ (cK z.apex z.sets))[j]?=some x->0<aI x n):jl (cL z) n (jE (dZ (cK z.apex z.sets)) k n):=by
 obtain⟨p1,p2⟩:=OP h
 have:=YK (AW h) p1 (n:=n) (λc hc ht _=>p2 c hc ht) hk (λj hj BN=>h1 j _ BN (aQ hj)) (λj hj BN=>h2 j _ BN (aQ hj))
 unfold jE;split
 ·rename_i hc; rw[dif_pos hc] at this; exact this
 ·rename_i hc; rw[dif_neg hc] at this; exact this
def fT(c:Copy):Int×List UInt8:=(c.host,c.zone.apex)
def fF(l:List Copy)(p:Int×List UInt8):List Span:=(l.filter λc=>decide (fT c=p)).map gV
theorem DU(l:List Copy)(c:Copy)(p:Int×List UInt8):fF (l ++ [c]) p=if fT c=p then fF l p ++ [gV c] else fF l p:=by
 unfold fF;rw[List.filter_append];by_cases h:fT c=p
 ·simp[h]
 ·simp[h]
theorem NX{l:List Copy}{p:Int×List UInt8}(h:∀ c∈l,fT c≠p):fF l p = []:=by
 unfold fF;rw[List.filter_eq_nil_iff.2 (λc hc=>by simpa using h c hc)]; rfl
structure GrpI(kvs:List ((Int×List UInt8)×List Span))(l:List Copy):Prop where
 nodup:(kvs.map (·.1)).Nodup
 each:∀ x∈kvs,x.2=fF l x.1
 all:∀ c∈l,fT c∈kvs.map (·.1)
theorem GrpI.nil:GrpI [] []:=⟨by simp,λx hx=>(by cases hx),λc hc=>(by cases hc)⟩
theorem GrpI.old{kvs:List ((Int×List UInt8)×List Span)}{l:List Copy}(h:GrpI kvs l){c:Copy}{j:Nat}{g:List Span}(hj:kvs[j]?=some (fT c,g)):GrpI (kvs.set j (fT c,g ++ [gV c])) (l ++ [c]):=by
 obtain⟨hl,he⟩:=cQ.1 hj;have hk:(kvs.set j (fT c,g ++ [gV c])).map (·.1)=kvs.map (·.1):=by
  rw[List.map_set];apply List.ext_getElem?;intro i;rw[List.getElem?_set];split
  ·rename_i e; subst e;rw[List.length_map,Qb hl,List.getElem?_map,hj]; rfl
  ·rfl
 have hg:=h.each _ (gQ hj);refine⟨by rw[hk]; exact h.nodup,λx hx=>?_,λd hd=>?_⟩
 ·obtain⟨i,hi,rfl⟩:=nQ.1 hx;rw[List.length_set] at hi;rw[List.getElem_set];split
  ·rename_i e; subst e;rw[DU,Qb rfl];simp only at hg |-;rw[<-hg]
  ·rename_i e;rw[DU,Qc]
   ·exact h.each _ (List.getElem_mem hi)
   ·intro e2;apply e;have h1:(kvs.map (·.1))[j]'(by simpa using hl)=(kvs.map (·.1))[i]'(by simpa using hi):=by simp[he,e2]
    exact (List.getElem_inj (h₀:=by simpa using hl) (h₁:=by simpa using hi) h.nodup).1 h1
 ·rw[hk];rcases List.mem_append.1 hd with hd | hd
  ·exact h.all d hd
  ·rw[List.mem_singleton] at hd; subst hd;exact List.mem_map.2 ⟨_,gQ hj,rfl⟩
theorem GrpI.new{kvs:List ((Int×List UInt8)×List Span)}{l:List Copy}(h:GrpI kvs l){c:Copy}(hn:fT c∉kvs.map (·.1)):GrpI (kvs ++ [(fT c,[gV c])]) (l ++ [c]):=by
 have h0:fF l (fT c) = []:=NX λd hd e=>hn (by rw[<-e]; exact h.all d hd);refine⟨?_,λx hx=>?_,λd hd=>?_⟩
 ·rw[List.map_append,List.nodup_append];refine⟨h.nodup,by simp,λa ha b hb e=>?_⟩;simp at hb; subst hb; subst e; exact hn ha
 ·rcases List.mem_append.1 hx with hx | hx
  ·rw[DU,Qc]
   ·exact h.each x hx
   ·intro e; exact hn (by rw[e]; exact List.mem_map.2 ⟨x,hx,rfl⟩)
  ·rw[List.mem_singleton] at hx; subst hx;rw[DU,Qb rfl,h0]; rfl
 ·rw[List.map_append];rcases List.mem_append.1 hd with hd | hd
  ·exact List.mem_append_left _ (h.all d hd)
  ·rw[List.mem_singleton] at hd; subst hd; simp
def og(a b:Span):Prop:=a.frm<b.til/\b.frm<a.til
theorem og.symm{a b:Span}(h:og a b):og b a:=⟨h.2,h.1⟩
def Id(m:List Span):Prop:=∀ i (h:i+1<m.length),m[i].til<=m[i+1].frm
theorem azX{m l:List Span}(hp:m.Perm l)(hs:m.Pairwise λa b=>a.frm<=b.frm)(hf:∀ s∈l,s.frm<s.til):Id m↔l.Pairwise λa b=>¬ og a b:=by
 rw[<-hp.pairwise_iff (R:=λa b=>¬ og a b) (λ{a b} h k=>h k.symm)];have OK:∀ s∈m,s.frm<s.til:=λs hs=>hf s (hp.mem_iff.1 hs);clear hp hf;constructor
 ·intro h;rw[List.pairwise_iff_getElem];intro i j hi hj dU ho;have key:∀ d,∀ (h1:i+d+1<m.length),(m[i]'(by omega)).til<=(m[i+d+1]'h1).frm:=by
   intro d
   induction d with
   | zero=>intro h1; exact h i h1
   | succ d ih=>
    intro h1;have h2:=ih (by omega);have h3:=h (i+d+1) (by omega);have h4:=OK _ (List.getElem_mem (show i+d+1<m.length by omega));have e:i+(d+1)+1=i+d+1+1:=by omega
    simp only[e];omega
  obtain⟨d,rfl⟩:∃ d,j=i+d+1:=⟨j - i - 1,by omega⟩
  have:=key d hj
  have:=ho.2
  omega
 ·intro h i hi;rw[List.pairwise_iff_getElem] at h hs;have h1:=h i (i+1) (by omega) hi (by omega);have h2:=hs i (i+1) (by omega) hi (by omega);have h3:=OK _ (List.getElem_mem hi);unfold og at h1;omega
theorem Xk(l:List Copy):(l.Pairwise λc d=>¬ gE c d)↔∀ p,(fF l p).Pairwise λa b=>¬ og a b:=by
 induction l with
 | nil=>simp[fF]
 | cons c l ih=>
  rw[List.pairwise_cons,ih];constructor
  ·rintro⟨h1,h2⟩ p;by_cases hp:fT c=p
   ·have e:fF (c::l) p=gV c::fF l p:=by unfold fF; simp[hp]
    rw[e,List.pairwise_cons];refine⟨λs hs=>?_,h2 p⟩;obtain⟨d,hd,rfl⟩:=List.mem_map.1 hs;obtain⟨eU,ls⟩:=List.mem_filter.1 hd;have hk:fT d=fT c:=by rw[hp]; simpa using ls
    intro ho;unfold fT at hk;simp only[Prod.mk.injEq] at hk;exact h1 d eU ⟨hk.1.symm,hk.2.symm,ho.1,ho.2⟩
   ·have e:fF (c::l) p=fF l p:=by unfold fF; simp[hp]
    rw[e]; exact h2 p
  ·intro h;refine⟨λd hd js=>?_,λp=>?_⟩
   ·have h1:=h (fT c);have e:fF (c::l) (fT c)=gV c::fF l (fT c):=by unfold fF; simp
    rw[e,List.pairwise_cons] at h1;refine h1.1 (gV d) (List.mem_map.2 ⟨d,List.mem_filter.2 ⟨hd,?_⟩,rfl⟩) ⟨js.2.2.1,js.2.2.2⟩;unfold fT;simp[js.1,js.2.1]
   ·have h1:=h p;by_cases hp:fT c=p
    ·have e:fF (c::l) p=gV c::fF l p:=by unfold fF; simp[hp]
     rw[e,List.pairwise_cons] at h1;exact h1.2
    ·have e:fF (c::l) p=fF l p:=by unfold fF; simp[hp]
     rwa [e] at h1
theorem GrpI.ok{kvs:List ((Int×List UInt8)×List Span)}{l:List Copy}(h:GrpI kvs l):(l.Pairwise λc d=>¬ gE c d)↔∀ x∈kvs,x.2.Pairwise λa b=>¬ og a b:=by
 rw[Xk];constructor
 ·intro h1 x hx;rw[h.each x hx]; exact h1 _
 ·intro h1 p;by_cases hp:p∈kvs.map (·.1)
  ·obtain⟨x,hx,rfl⟩:=List.mem_map.1 hp;rw[<-h.each x hx]; exact h1 x hx
  ·rw[NX λc hc e=>hp (by rw[<-e]; exact h.all c hc)];exact List.Pairwise.nil
end Np
end Go.Proofs.YtbfbobfbgabjiaaGreatDoor
