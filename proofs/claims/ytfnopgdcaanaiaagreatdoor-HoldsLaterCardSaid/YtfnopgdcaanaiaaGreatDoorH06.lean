/- Parts of the proof. No condition. -/
import Derived.Laws.EntriesVeiled
import Derived.IntWalk
import Derived.Test.YtfnopgdcaanaiaaGreatDoorH02
import Derived.Test.YtfnopgdcaanaiaaGreatDoorH03
import Derived.Test.YtfnopgdcaanaiaaGreatDoorH04
import Derived.Test.YtfnopgdcaanaiaaGreatDoorH05
set_option linter.all false
set_option maxRecDepth 100000
set_option maxHeartbeats 8000000
namespace Go.Proofs.YtfnopgdcaanaiaaGreatDoor
open Go.Proofs.Tryz
namespace Np
structure Zone where
 apex:List UInt8
 sets:List Signed
deriving DecidableEq
def lJ:List (List UInt8)->List (List UInt8)->Int
 | [],_=>-1
 | _::_,[]=>1
 | x::xs,y::ys=>if bV x y≠0 then bV x y else lJ xs ys
def aD(a b:List UInt8):Int:=if a=b then 0 else lJ (back a) (back b)
def fW(a b:DSet):Int:=if a.name≠b.name then aD a.name b.name else bX a.type b.type
def bg(s z:List UInt8):Bool:=s == z||z == [46]||(decide (z.length<s.length)&&(s.drop (s.length - z.length) == z)&&(s[s.length - z.length - 1]? == some 46))
def iJ(apex:List UInt8):Option DSet->List Signed->Bool
 | _,[]=>true
 | p,x::r=>(aC x.set.name&&bg x.set.name apex)&&cW x.set&&(match p with | none=>true | some q=>decide (fW q x.set<0))&&iJ apex (some x.set) r
def dZ(z:Zone):Bool:=aC z.apex&&!dL z.apex&&iJ z.apex none z.sets
theorem J6:∀ (xs:List (List UInt8)) (n:Nat) (w:Bool),eE xs n w=true->∀ x∈xs,x = [42]\/bS x=true:=by
 intro xs
 induction xs with
 | nil=>intro _ _ _ x h;cases h
 | cons y xs ih=>
  intro n w h x hx;rw[eE] at h;split at h
  ·cases h
  ·split at h
   ·rename_i hy;rcases List.mem_cons.1 hx with rfl | hx
    ·exact .inl hy
    ·exact ih _ _ h x hx
   ·split at h
    ·rename_i hy;rcases List.mem_cons.1 hx with rfl | hx
     ·exact .inr hy
     ·exact ih _ _ h x hx
    ·cases h
theorem EF{r:Rule} : ∀ {ds:List Datum} {p:Option Datum},ij r p ds=true->∀ d∈ds,je r d=true
 | [],_,_,d,h=>by cases h
 | e::ds,p,h,d,hd=>by
   simp only[ij,Bool.and_eq_true] at h;rcases List.mem_cons.1 hd with rfl | hd
   ·exact h.1.1
   ·exact EF h.2 d hd
theorem tV{s:DSet}(h:cW s=true):aC s.name=true/\1<=s.type/\s.type<=8/\0<=s.life/\s.life<=100000/\1<=s.data.length/\s.data.length<=8/\ij (bH s.type) none s.data=true:=by
 unfold cW at h;simp only[Bool.and_eq_true,Qa] at h;obtain⟨⟨⟨⟨⟨⟨h1,h2,h3⟩,h4,h5⟩,h6,h7⟩,_⟩,_⟩,h8⟩:=h;exact⟨h1,h2,h3,h4,h5,h6,h7,h8⟩
theorem AZ{apex:List UInt8} : ∀ {l:List Signed} {p:Option DSet},iJ apex p l=true->∀ x∈l,cW x.set=true
 | [],_,_,x,h=>by cases h
 | y::l,p,h,x,hx=>by
   simp only[iJ,Bool.and_eq_true] at h;rcases List.mem_cons.1 hx with rfl | hx
   ·exact h.1.1.2
   ·exact AZ h.2 x hx
end Np
namespace D
open Go.RowKit Go.Shelf
attribute [local go_sem] Oper.semAt_some
def pk(W:World)(lm lr:Nat)(rem:List (List UInt8)):Prop:=
 ∃ (more:Bool) (r:ByteArray),Boxed W lm 4 (.bool more)/\Boxed W lr 9 (.string r)/\r.size<=140737488355328/\rem=if more then (Np.aO r.data.toList).reverse else []
theorem pk.it{B:Nat}{S:Nat->Prop}{W W':World}{lm lr:Nat}{rem:List (List UInt8)}(h:pk W lm lr rem)(hs:ItStep B S W W')(h1:S lm)(h2:S lr):pk W' lm lr rem:=by
 obtain⟨more,r,b1,b2,h3,h4⟩:=h;exact⟨more,r,jr b1 hs h1,jr b2 hs h2,h3,h4⟩
def Ef(W:World)(lm lr:Nat)(rem:List (List UInt8))(e:Ending)(W':World):Prop:=
 (rem = []/\e = .returned (.tuple #[.string ⟨#[]⟩,.bool false])/\W'=W)\/
 ∃ x rest,rem=x::rest/\e = .returned (.tuple #[aB x,.bool true])/\pk W' lm lr rest/\∃ b u,(b=lm\/b=lr)/\W'=W.setCell ⟨b,0,none⟩ u
theorem WL(lm lr:Nat)(hne:lm≠lr)(rem:List (List UInt8))(w:World)(h:pk w lm lr rem) :
 Calls prog 297 #[.pointer (some ⟨lm,0,none⟩),.pointer (some ⟨lr,0,none⟩)] w (Ef w lm lr rem):=by
 obtain⟨more,r,b1,b2,h3,h4⟩:=h;have HR:=jq h4;clear h4;have c1:=b1.cell;have c2:=b2.cell;have f1:=b1.frozen;have f2:=b2.frozen
 cases more with
 | false=>
  go_enter func297,ntmps297;go_wp2_with fail;refine bodyPost_ret (v:=.tuple #[.string ⟨#[]⟩,.bool false]) (by simp[results,results297,go_sem]) rfl ?_;exact .inl ⟨HR.out,rfl,rfl⟩
 | true=>
  go_enter func297,ntmps297;go_wp2_with fail;refine (Gg _ h3 _ (by decide) (by decide) _).mono ?_;rintro e w' ⟨q,hq,rfl,rfl⟩;rcases hq with ⟨rfl,fN⟩ | ⟨a,b,fY,ro,rfl⟩
  ·have bi:Np.aO r.data.toList = [r.data.toList]:=Np.vN fN;have HS:=jq bi;clear bi fN;go_wp2_with fail;refine bodyPost_ret (v:=.tuple #[.string r,.bool true]) (by simp[results,results297,go_sem]) rfl ?_;refine .inr ⟨r.data.toList,[],by rw[HR.out,Qb trivial,HS.out];rfl,rfl,⟨false,r,b1.set _,ef b2 (by simpa using hne.symm) _,h3,rfl⟩,lm,_,.inl rfl,rfl⟩
  ·have iW:a.length+1+b.length=r.size:=by rw[<-aU,fY];simp;omega
   have bi:Np.aO r.data.toList=Np.aO a ++ [b]:=by rw[fY];exact (Np.zA a b).trans (by rw[Np.vN ro])
   have rF:(r.extract (a.length+1) r.size).data.toList=b:=by rw[AT,fY];simp
   have oH:(r.extract 0 a.length).data.toList=a:=by rw[AU,fY];simp
   have QI:Hid (r.extract (a.length+1) r.size=⟨b.toArray⟩):=jq (kL (by rw[rF]));have I1:=jq oH;have HS:=jq bi;clear bi rF oH fY ro;have jV:a.length<=140737488355328:=by omega
   have Kh:a.length+1<=r.size:=by omega
   have aeK:(a.length:Int)+1<=(r.size:Int):=by omega
   clear iW;go_wp2_with fail;refine bodyPost_ret (v:=.tuple #[.string (r.extract (a.length+1) r.size),.bool true]) (by simp[results,results297,go_sem]) rfl ?_;refine .inr ⟨b,(Np.aO a).reverse,by rw[HR.out,Qb trivial,HS.out];simp,by rw[QI.out],⟨true,r.extract 0 a.length,ef b1 (by simpa using hne) _,b2.set _,by rw[<-aU,I1.out];omega,by rw[I1.out];rfl⟩,lr,_,.inr rfl,rfl⟩
theorem XD(t:ByteArray)(ht:t.size<=140737488355328)(w:World) :
 Calls prog 214 #[.string t] w λe w'=>e = .returned (.func (.func 297) #[] #[.pointer (some ⟨w.heap.size+1,0,none⟩),.pointer (some ⟨w.heap.size,0,none⟩)])/\
  pk w' (w.heap.size+1) w.heap.size (Np.back t.data.toList)/\Below w.heap.size w w'/\w'.heap.size=w.heap.size+2:=by
 have b0:=Boxed.new w 9 (.string t);have hb:∀ o o',Below w.heap.size w ((w.alloc o).alloc o'):=λo o'=>((vQ _ w).alloc (bQ _) _).alloc (by simp) _;by_cases he:t.data.toList = [46]
 ·have jY:(t.toList == [46])=true:=by rw[dQ,he];rfl
  have b1:=Boxed.new (w.alloc (.cells #[.string t] 9)) 4 (.bool false);rw[World.size_alloc] at b1;have HB:Hid (Np.back t.data.toList = []):=jq (by simp[Np.back,he]);clear he;go_enter func214,ntmps214;go_wp2_with fail;go_ret;exact⟨rfl,⟨false,t,b1,b0.alloc _,ht,by rw[HB.out];rfl⟩,hb _ _,by simp⟩
 ·have jY:(t.toList == [46])=false:=by rw[dQ];simpa using he
  have b1:=Boxed.new (w.alloc (.cells #[.string t] 9)) 4 (.bool true);rw[World.size_alloc] at b1;have HB:Hid (Np.back t.data.toList=(Np.aO t.data.toList).reverse):=jq (by simp[Np.back,he]);clear he;go_enter func214,ntmps214;go_wp2_with fail;go_ret;exact⟨rfl,⟨true,t,b1,b0.alloc _,ht,by rw[HB.out];rfl⟩,hb _ _,by simp⟩
theorem RH:∀ a b:List UInt8,Lib.compareBytes a b=Np.bV a b:=by
 intro a
 induction a with
 | nil=>
  intro b
  cases b with
  | nil=>rfl
  | cons y b=>simp[Lib.compareBytes,Np.bV,Op.bytesLess]
 | cons x a ih=>
  intro b
  cases b with
  | nil=>simp[Lib.compareBytes,Np.bV,Op.bytesLess]
  | cons y b=>
   rw[Lib.compareBytes,ih b];by_cases h1:x<y
   ·simp[Np.bV,Op.bytesLess,h1]
   ·by_cases h2:y<x
    ·have h3:¬ x=y:=λe=>by subst e;exact h1 h2
     simp[Np.bV,Op.bytesLess,h1,h2,h3]
    ·have h3:x=y:=by
      apply UInt8.toNat_inj.1;simp only[UInt8.lt_iff_toNat_lt] at h1 h2;omega
     subst h3;simp[Np.bV,Op.bytesLess,h1]
theorem Y9(s t:ByteArray)(w:World) :
 Calls prog 216 #[.string s,.string t] w λe w'=>e = .returned (.int .i64 (Np.bV s.data.toList t.data.toList))/\w=w':=
 (Tryz.strings_Compare s t w).mono λe w' ⟨he,hw⟩=>⟨by rw[he,RH],hw.symm⟩
def CP(g lm lr l8:Nat)(S:Nat->Prop):Prop:=∀ k,S k↔k=g\/k=g+1\/k=lm\/k=lr\/k=l8
def CO(w:World)(g lm lr l8:Nat)(fv:Value)(m n:List UInt8)(pre:List (List UInt8))(S:Nat->Prop)(W:World):Prop:=
 CP g lm lr l8 S/\Boxed W g 3 (.int .i64 0)/\Boxed W (g+1) 37 (.int .i64 0)/\Boxed W l8 273 fv/\
 (∃ rem,pk W lm lr rem/\∀ rest,Np.back m=pre++rest->Np.lJ (Np.back m) (Np.back n)=Np.lJ rest rem)/\Below w.heap.size w W
def CQ(w:World)(g lm lr l8:Nat)(m n:List UInt8)(c:Code)(_:List (List UInt8))(S:Nat->Prop)(W:World):Prop:=
 c = .ret/\CP g lm lr l8 S/\Boxed W g 3 (.int .i64 (Np.lJ (Np.back m) (Np.back n)))/\Boxed W (g+1) 37 (.int .i64 0)/\Below w.heap.size w W
theorem Jz(w:World)(g lm lr l8:Nat)(fv:Value)(m n:List UInt8)(B:Nat)(hB:w.heap.size<=B):eY B (CO w g lm lr l8 fv m n):=by
 rintro s S W W' ⟨hS,h1,h2,h3,⟨rem,h4,h5⟩,h6⟩ aA;exact⟨hS,jr h1 aA ((hS _).2 (.inl rfl)),jr h2 aA ((hS _).2 (.inr (.inl rfl))),jr h3 aA ((hS _).2 (.inr (.inr (.inr (.inr rfl))))),
  ⟨rem,h4.it aA ((hS _).2 (.inr (.inr (.inl rfl)))) ((hS _).2 (.inr (.inr (.inr (.inl rfl))))),h5⟩,sO h6 aA hB (bQ _)⟩
theorem RI(w:World)(g lm lr l8:Nat)(m n:List UInt8)(B:Nat)(hB:w.heap.size<=B)(c:Code):eY B (CQ w g lm lr l8 m n c):=by
 rintro s S W W' ⟨hc,hS,h1,h2,h6⟩ aA;exact⟨hc,hS,jr h1 aA ((hS _).2 (.inl rfl)),jr h2 aA ((hS _).2 (.inr (.inl rfl))),sO h6 aA hB (bQ _)⟩
theorem Ef.rd{W W':World}{lm lr:Nat}{rem:List (List UInt8)}{e:Ending}(h:Ef W lm lr rem e W'):(rem = []/\e = .returned (.tuple #[.string ⟨#[]⟩,.bool false])/\W'=W)\/
 ∃ x rest,rem=x::rest/\e = .returned (.tuple #[aB x,.bool true])/\pk W' lm lr rest/\(∀ S:Nat->Prop,S lm->S lr->RdStep S W W')/\(∀ b t v,b≠lm->b≠lr->Boxed W b t v->Boxed W' b t v)/\(∀ (n:Nat) (w:World),n<=lm->n<=lr->Below n w W->Below n w W'):=by
 rcases h with h | ⟨x,rest,h1,h2,h3,b,u,hb,rfl⟩
 ·exact .inl h
 ·refine .inr ⟨x,rest,h1,h2,h3,λS s1 s2=>?_,λb' t v n1 n2 hv=>ef hv (by rcases hb with rfl | rfl <;> assumption) _,λn w n1 n2 hB=>hB.setCell (p:=⟨b,0,none⟩) (by rcases hb with rfl | rfl <;> assumption) _⟩;exact RdStep.setCell (RdStep.refl S W) (.inl (by rcases hb with rfl | rfl <;> assumption)) _
theorem JD{w:World}{lm lr l8:Nat}{fv:Value}{m n:List UInt8}{pre:List (List UInt8)}{S:Nat->Prop}{W W3:World}{a:Act}{v0 v1:Value}{q:Int}(hS:CP w.heap.size lm lr l8 S)
 (hr:RdStep S W W3) (aa:∀ k,S k->k<W.heap.size) (c0:Boxed W3 w.heap.size 3 v0) (c1:Boxed W3 (w.heap.size+1) 37 v1) (hB:Below w.heap.size w W3) (hv:Np.lJ (Np.back m) (Np.back n)=q) :
 lI (CO w w.heap.size lm lr l8 fv m n) (CQ w w.heap.size lm lr l8 m n) pre S W .ret a ((W3.setCell ⟨w.heap.size,0,none⟩ (.int .i64 q)).setCell ⟨w.heap.size+1,0,none⟩ (.int .i64 0)):=
 ⟨S,(hr.setCell (.inl ((hS _).2 (.inl rfl))) _).setCell (.inl ((hS _).2 (.inr (.inl rfl)))) _,λ_ e=>.inl e,λk e=>by have:=aa k e;have:=hr.size;simp[World.setCell];omega,rfl,hS,
  by rw[hv];exact ef (c0.set _) (by simp) _,(ef c1 (by simp) _).set _,(hB.setCell (bQ _) _).setCell (by simp) _⟩
def cmpVal(a b:List UInt8):Value:=if Np.aC a&&Np.aC b then .tuple #[.int .i64 (Np.aD a b),.int .i64 0] else .tuple #[.int .i64 0,.int .i64 11]
theorem compare_any(a b:ByteArray)(ha:a.size<=140737488355328)(hb:b.size<=140737488355328)(w:World) :
 Calls prog 137 #[.string a,.string b] w λe w'=>e = .returned (cmpVal a.data.toList b.data.toList)/\Below w.heap.size w w':=by
 refine (callsIn_wide (n:=0)).1 ?_;refine callsIn_of_wp_marks func137 rfl trivial ?_ rfl;simp only[ntmps137,List.size_toArray,List.length_cons,List.length_nil,Nat.reduceAdd,Nat.reduceSub,Array.replicate_succ,Array.replicate_zero,List.push_toArray,List.append_toArray,List.nil_append,List.cons_append];have b0:=Boxed.new w 3 (.int .i64 0);have b1:=Boxed.new (w.alloc (.cells #[.int .i64 0] 3)) 37 (.int .i64 0);rw[World.size_alloc] at b1;replace b0:=b0.alloc (.cells #[.int .i64 0] 37);have cH:Below w.heap.size w ((w.alloc (.cells #[.int .i64 0] 3)).alloc (.cells #[.int .i64 0] 37)):=((vQ _ w).alloc (bQ _) _).alloc (by simp) _;gi_wp2_with fail;refine⟨trivial,rfl,?_⟩;refine (callsIn_wide.2 (valid_any a ha _)).mono ?_;rintro e w1 ⟨rfl,az⟩;replace b0:=cG b0 az (by simp;omega);replace b1:=cG b1 az (by simp);replace cH:=cH.trans (az.mono (by simp;omega));clear az;have pu:∀ (W:World) (tmps:Array Value),Boxed W w.heap.size 3 (.int .i64 0)->Boxed W (w.heap.size+1) 37 (.int .i64 11)->Below w.heap.size w W->(Np.aC a.data.toList&&Np.aC b.data.toList)=false->
  tmps[4]?=some (.pointer (some ⟨w.heap.size,0,none⟩))->tmps[5]?=some (.pointer (some ⟨w.heap.size+1,0,none⟩))->
  bodyPostM Fence.wide 0 prog Tryz.f137 (λe w'=>e = .returned (cmpVal a.data.toList b.data.toList)/\Below w.heap.size w w') .ret { tmps:=tmps,defers:=[] } W:=λW tmps c0 c1 hB hv t4 t5=>by
  have d0:=c0.cell;have d1:=c1.cell;exact mu (v:=.tuple #[.int .i64 0,.int .i64 11]) (by simp[results,results137,go_sem,d0,d1,t4,t5]) ⟨by rw[cmpVal,hv];rfl,hB⟩
 have kN:=jq pu;clear pu;have c0:=b0.cell;have c1:=b1.cell;have f0:=b0.frozen;have f1:=b1.frozen
 cases va:Np.aC a.data.toList with
 | false=>
  gi_wp2_with fail;refine⟨trivial,?_⟩;gi_wp2_with fail;refine kN.out _ _ (ef (b0.set _) (by simp) _) ((ef b1 (by simp) _).set _) ((cH.setCell (bQ _) _).setCell (by simp) _) (by rw[va];rfl) rfl rfl
 | true=>
  have VA:=jq va;clear va c0 c1 f0 f1;gi_wp2_with fail;refine⟨trivial,rfl,?_⟩;refine (callsIn_wide.2 (valid_any b hb _)).mono ?_;rintro e w2 ⟨rfl,ac⟩;have bi:w.heap.size+1<w1.heap.size:=b1.lt;replace b0:=cG b0 ac (by omega);replace b1:=cG b1 ac bi;replace cH:=cH.trans (ac.mono (by omega));have gX:=ac.size;clear ac;have c0:=b0.cell;have c1:=b1.cell;have f0:=b0.frozen;have f1:=b1.frozen
  cases vb:Np.aC b.data.toList with
  | false=>
   gi_wp2_with fail;refine kN.out _ _ (ef (b0.set _) (by simp) _) ((ef b1 (by simp) _).set _) ((cH.setCell (bQ _) _).setCell (by simp) _) (by rw[vb,Bool.and_false]) rfl rfl
  | true=>
   have VV:Hid ((Np.aC a.data.toList&&Np.aC b.data.toList)=true):=jq (by rw[VA.out,vb];rfl);clear vb VA kN;by_cases fY:a.data.toList=b.data.toList
   ·have Tg:(a.toList == b.toList)=true:=by rw[dQ,dQ,fY];simp
    gi_wp2_with fail;have d0:=(ef (b0.set (.int .i64 0)) (p:=⟨w.heap.size+1,0,none⟩) (by simp) (.int .i64 0)).cell;have d1:=((ef b1 (p:=⟨w.heap.size,0,none⟩) (by simp) (.int .i64 0)).set (.int .i64 0)).cell;exact mu (v:=.tuple #[.int .i64 0,.int .i64 0]) (by simp[results,results137,go_sem,d0,d1]) ⟨by rw[cmpVal,VV.out,fY];simp[Np.aD],(cH.setCell (bQ _) _).setCell (by simp) _⟩
   ·have Tg:(a.toList == b.toList)=false:=by rw[dQ,dQ];simpa using fY
    have HV:Hid (cmpVal a.data.toList b.data.toList = .tuple #[.int .i64 (Np.lJ (Np.back a.data.toList) (Np.back b.data.toList)),.int .i64 0]):=jq (by rw[cmpVal,VV.out];simp[Np.aD,fY]);clear fY;gi_wp2_with fail;refine⟨trivial,rfl,?_⟩;refine (callsIn_wide.2 (XD b hb _)).mono ?_;rintro e w3 ⟨rfl,vm,ak,cO⟩;have wT:=jq cO;clear cO;replace b0:=cG b0 ak (by omega);replace b1:=cG b1 ak (by omega);replace cH:=cH.trans (ak.mono (by omega));clear ak;have hl:=cH.size;have b8:=Boxed.new w3 273 (.func (.func 297) #[] #[.pointer (some ⟨w2.heap.size+1,0,none⟩),.pointer (some ⟨w2.heap.size,0,none⟩)]);replace b0:=b0.alloc (.cells #[.func (.func 297) #[] #[.pointer (some ⟨w2.heap.size+1,0,none⟩),.pointer (some ⟨w2.heap.size,0,none⟩)]] 273);replace b1:=b1.alloc (.cells #[.func (.func 297) #[] #[.pointer (some ⟨w2.heap.size+1,0,none⟩),.pointer (some ⟨w2.heap.size,0,none⟩)]] 273);replace vm:pk (w3.alloc (.cells #[.func (.func 297) #[] #[.pointer (some ⟨w2.heap.size+1,0,none⟩),.pointer (some ⟨w2.heap.size,0,none⟩)]] 273)) (w2.heap.size+1) w2.heap.size (Np.back b.data.toList):=vm.it (B:=w3.heap.size) (S:=λ_=>True) (rH _) trivial trivial;replace cH:=cH.alloc cH.size (.cells #[.func (.func 297) #[] #[.pointer (some ⟨w2.heap.size+1,0,none⟩),.pointer (some ⟨w2.heap.size,0,none⟩)]] 273);clear c0 c1 f0 f1;have n8:=Boxed.new w3 273 .nilFunc;have n8c:=n8.cell;have n8f:=n8.frozen;gi_wp2_with fail;clear n8 n8c n8f;have hEG:=enters_of func297 (by kernel_rfl) rfl;have akZ:w.heap.size+1<w2.heap.size:=by omega
    have ct:w3.heap.size=w2.heap.size+2:=wT.out;refine CJ (n₀:=w.heap.size) (w0:=w) (first:=#[.string a]) (captured:=#[]) (gf:=215) rfl (enters_of func215 (by kernel_rfl) rfl) (mk:=λy=>#[.string a,y]) (λ_=>rfl)
     (AM a ha _ w) cH cH.size (λ_=>rfl) (CO w w.heap.size (w2.heap.size+1) w2.heap.size w3.heap.size (.func (.func 297) #[] #[.pointer (some ⟨w2.heap.size+1,0,none⟩),.pointer (some ⟨w2.heap.size,0,none⟩)]) a.data.toList b.data.toList)
     (CQ w w.heap.size (w2.heap.size+1) w2.heap.size w3.heap.size a.data.toList b.data.toList)
     (Jz _ _ _ _ _ _ _ _ _ cH.size) (λc=>RI _ _ _ _ _ _ _ _ cH.size c)
     (λk=>k=w.heap.size\/k=w.heap.size+1\/k=w2.heap.size+1\/k=w2.heap.size\/k=w3.heap.size) (by intro k h;omega) (by intro k h;simp;omega)
     ⟨λ_=>Iff.rfl,b0,b1,b8,⟨_,vm,λrest h=>by rw[h];rfl⟩,cH⟩ ?round ?done ?stop
    case round=>
     rintro l0 pre x S W bp hI fd;clear ct;gi_wp2;refine⟨S,RdStep.refl _ _,λk e=>.inl e,fd,?_⟩;intro l W₂ aA;obtain⟨hS,c0,c1,c8,⟨rem,hp,yP⟩,hB⟩:=Jz w w.heap.size _ _ _ _ _ _ _ cH.size pre S W W₂ hI aA;have c8c:=c8.cell;have kY:∀ k,S k->k<W₂.heap.size:=λk e=>lQ (fd k e) aA.size;have hx:x∈Np.back a.data.toList:=bp.subset (by simp);have mE:x.length<=140737488355328:=by have:=Np.AL hx;rw[aU] at this;omega
     obtain⟨rest,pU⟩:=bp;have iO:=yP (x::rest) (by rw[<-pU];simp);have HR:=jq pU;have HG:=jq iO;clear pU iO yP hx hI aA b0 b1 b8 vm;gi_wp2_with fail;refine⟨trivial,rfl,?_⟩;refine (CallsIn.inRound l (callsIn_wide.2 (WL (w2.heap.size+1) w2.heap.size (by omega) rem _ hp))).mono ?_;intro e W3 hP;rcases hP.rd with ⟨lX,rfl,rfl⟩ | ⟨y,rem',lX,rfl,hp',aN,eF,bG⟩
     ·have c0c:=c0.cell;have c1c:=c1.cell;have c0f:=c0.frozen;have c1f:=c1.frozen;have DV:=jq lX;clear lX hP;gi_wp2_with fail;exact JD hS (RdStep.refl S _) kY c0 c1 hB (by rw[HG.out,DV.out];rfl)
     ·have DV:=jq lX;replace c0:=eF _ _ _ (by omega) (by omega) c0;replace c1:=eF _ _ _ (by omega) (by omega) c1;replace c8:=eF _ _ _ (by have:=wT.out;omega) (by have:=wT.out;omega) c8;have FM:=aN S ((hS _).2 (.inr (.inr (.inl rfl)))) ((hS _).2 (.inr (.inr (.inr (.inl rfl)))));have hB':=bG w.heap.size w (by omega) (by omega) hB;have c0c:=c0.cell;have c1c:=c1.cell;have c0f:=c0.frozen;have c1f:=c1.frozen;clear lX hP aN eF bG c8c hp hB;have iO:Np.lJ (Np.back a.data.toList) (Np.back b.data.toList)=if Np.bV x y≠0 then Np.bV x y else Np.lJ rest rem':=by rw[HG.out,DV.out];rfl
      have Hy:=jq iO;clear iO HG;have cC:=Y9 ⟨x.toArray⟩ ⟨y.toArray⟩ W3;by_cases hc:Np.bV x y=0
      ·have eG:(Np.bV x y != 0)=false:=by simp[hc]
       have HC:=jq hc;clear hc;gi_wp2_with (refine⟨trivial,rfl,?_⟩;gi_at_call 216;refine (CallsIn.inRound l (callsIn_wide.2 cC)).mono ?_;rintro e w' ⟨rfl,rfl⟩);refine⟨S,FM,λ_ e=>.inl e,λk e=>by have:=kY k e;have:=FM.size;omega,hS,c0,c1,c8,⟨rem',hp',λr hr=>?_⟩,hB'⟩
       have:r=rest:=List.append_cancel_left (hr.symm.trans HR.out.symm)
       rw[Hy.out,Qc (λh=>h HC.out),this]
      ·have eG:(Np.bV x y != 0)=true:=by simpa using hc
       have HC:=jq hc;clear hc;gi_wp2_with (refine⟨trivial,rfl,?_⟩;gi_at_call 216;refine (CallsIn.inRound l (callsIn_wide.2 cC)).mono ?_;rintro e w' ⟨rfl,rfl⟩);exact JD hS FM kY c0 c1 hB' (by rw[Hy.out,Qb HC.out])
    case done=>
     rintro D S W hD fX aV ⟨hS,c0,c1,c8,⟨rem,hp,yP⟩,hB⟩ hK;clear ct b0 b1 b8 vm;have c0c:=c0.cell;have c1c:=c1.cell;have c0f:=c0.frozen;have c1f:=c1.frozen;have td:Np.lJ (Np.back a.data.toList) (Np.back b.data.toList) = -1:=by rw[yP [] (by simp)];rfl
     have HE:=jq td;have Bd:w.heap.size≠D:=λe=>fX ((hS _).2 (.inl e.symm));have Be:w.heap.size+1≠D:=λe=>fX ((hS _).2 (.inr (.inl e.symm)));have EM:w.heap.size<=D:=by have:=cH.size;omega
     clear td yP hp c8;gi_wp2;have hK':((W.setCell ⟨w.heap.size,0,none⟩ (.int .i64 (-1))).setCell ⟨w.heap.size+1,0,none⟩ (.int .i64 0)).heap[D]?=some (.deferred (some [])):=
      (wQ _ _ _ _ (by simpa using Be.symm)).trans ((wQ _ _ _ _ (by simpa using Bd.symm)).trans hK)
     have d0:=(sP (ef (c0.set (.int .i64 (-1))) (p:=⟨w.heap.size+1,0,none⟩) (by simp) (.int .i64 0)) Bd (.deferred none)).cell;have d1:=(sP ((ef c1 (p:=⟨w.heap.size,0,none⟩) (by simp) (.int .i64 (-1))).set (.int .i64 0)) Be (.deferred none)).cell;exact nj hK' (v:=.tuple #[.int .i64 (-1),.int .i64 0]) (by simp[results,results137,go_sem,d0,d1]) ⟨by rw[HV.out,HE.out],ni ((hB.setCell (bQ _) _).setCell (by simp) _) EM _⟩
    case stop=>
     rintro D c pre S W hD fX aV fD ⟨rfl,hS,c0,c1,hB⟩ hK;clear ct b0 b1 b8 vm;have Bd:w.heap.size≠D:=λe=>fX ((hS _).2 (.inl e.symm));have Be:w.heap.size+1≠D:=λe=>fX ((hS _).2 (.inr (.inl e.symm)));have EM:w.heap.size<=D:=by have:=cH.size;omega
     gi_wp2;have d0:=(sP c0 Bd (.deferred none)).cell;have d1:=(sP c1 Be (.deferred none)).cell;exact nj hK (v:=.tuple #[.int .i64 (Np.lJ (Np.back a.data.toList) (Np.back b.data.toList)),.int .i64 0]) (by simp[results,results137,go_sem,d0,d1]) ⟨by rw[HV.out],ni hB EM _⟩
end D
section
open Go.RowKit
def cmpVal(a b:List UInt8):Value:=if Np.aC a&&Np.aC b then .tuple #[.int .i64 (Np.aD a b),.int .i64 0] else .tuple #[.int .i64 0,.int .i64 11]
theorem compare_any(a b:ByteArray)(ha:a.size<=140737488355328)(hb:b.size<=140737488355328)(w:World) :
 Calls prog 137 #[.string a,.string b] w λe w'=>e = .returned (cmpVal a.data.toList b.data.toList)/\Below w.heap.size w w':=
 (D.compare_any a b ha hb w).mono λ_ _ h=>⟨h.1,h.2.low⟩
end
namespace Np
inductive Res (α:Type) where
 | ok (a:α) (r:List Tok)
 | err (e:Int) (r:List Tok)
deriving DecidableEq
structure Diag where
 err:Int
 pos:Int
deriving DecidableEq
def okR:List (List UInt8)->Bool
 | []=>true
 | [x]=>bS x||x == [42]
 | x::y::r=>bS x&&okR (y::r)
theorem Y6:bS [42]=false:=by decide
theorem SI(xs:List (List UInt8))(n:Nat):eE xs n true=xs.isEmpty:=by cases xs <;> simp[eE]
theorem SH:∀ (xs:List (List UInt8)) (n:Nat),n<=8->eE xs n false=(decide (n+xs.length<=8)&&okR xs):=by
 intro xs
 induction xs with
 | nil=>intro n hn;simp[eE,okR,hn]
 | cons x xs ih=>
  intro n hn;rw[eE];by_cases h8:8<n+1
  ·rw[Qb (by simp;omega),tQ (by simp;omega)];rfl
  ·rw[Qc (by simp;omega)];by_cases hx:x = [42]
   ·subst hx;rw[Qb rfl,SI]
    cases xs with
    | nil=>simp[okR];omega
    | cons y r=>simp[okR,Y6]
   ·rw[Qc hx];by_cases hl:bS x=true
    ·rw[Qb hl,ih (n+1) (by omega)]
     cases xs with
     | nil=>simp[okR,hl]
     | cons y r=>simp only[okR,hl,Bool.true_and,List.length_cons];congr 1;congr 1;apply propext;omega
    ·rw[Qc hl]
     cases xs with
     | nil=>simp[okR,hl,hx]
     | cons y r=>simp[okR,hl]
def rI:List (List UInt8)->Bool
 | []=>true
 | h::t=>(bS h||h == [42])&&t.all bS
theorem WX:∀ (a:List (List UInt8)) (h:List UInt8),okR (a ++ [h])=(a.all bS&&(bS h||h == [42])):=by
 intro a h
 induction a with
 | nil=>simp[okR]
 | cons x a ih=>
  cases a with
  | nil=>simp[okR]
  | cons y r=>
   simp only[List.cons_append,okR] at ih |-;rw[ih];simp[Bool.and_assoc]
theorem WW(l:List (List UInt8)):okR l.reverse=rI l:=by
 cases l with
 | nil=>rfl
 | cons h t=>rw[List.reverse_cons,WX,rI,List.all_reverse,Bool.and_comm]
theorem Od(s:List UInt8):aC s=if s = [46] then true else if 60<s.length then false else rI (aO s)&&decide ((aO s).length<=8):=by
 unfold aC;split
 ·rfl
 ·split
  ·rfl
  ·rw[SH _ 0 (by omega),WW,List.length_reverse,Bool.and_comm];simp
def iZ:List (List UInt8)->List UInt8
 | []=>[]
 | [x]=>x
 | x::y::r=>x++46::iZ (y::r)
theorem VZ(c:UInt8)(x:List UInt8)(xs:List (List UInt8)):iZ ((c::x)::xs)=c::iZ (x::xs):=by
 cases xs <;> simp[iZ]
theorem vv(s:List UInt8):iZ (aO s)=s:=by
 induction s with
 | nil=>rfl
 | cons c r ih=>
  rw[aO];have hne:=oS r
  cases hr:aO r with
  | nil=>exact absurd hr hne
  | cons x xs=>
   rw[hr] at ih;split
   ·rename_i hc;subst hc;rw[iZ,ih];rfl
   ·rw[VZ,ih]
theorem VY:∀ (l m:List (List UInt8)),l≠[]->m≠[]->iZ (l++m)=iZ l++46::iZ m:=by
 intro l
 induction l with
 | nil=>intro m h;exact absurd rfl h
 | cons x l ih=>
  intro m _ hm
  cases l with
  | nil=>
   cases m with
   | nil=>exact absurd rfl hm
   | cons y m=>simp[iZ]
  | cons y l=>
   have:=ih m (by simp) hm
   simp only[List.cons_append,iZ] at this |-;rw[this];simp
def dO(s:List UInt8):List (List UInt8):=if s = [46] then [] else aO s
theorem zk(s:List UInt8):(dO s).reverse=back s:=by
 unfold dO back;split <;> rfl
theorem xG{a b:List UInt8}(h:back a=back b):a=b:=by
 unfold back at h;by_cases ha:a = [46]
 ·by_cases hb:b = [46]
  ·rw[ha,hb]
  ·rw[Qb ha,Qc hb] at h
   have:=oS b
   exact absurd (List.reverse_eq_nil_iff.1 h.symm) this
 ·by_cases hb:b = [46]
  ·rw[Qb hb,Qc ha] at h;exact absurd (List.reverse_eq_nil_iff.1 h) (oS a)
  ·rw[Qc ha,Qc hb] at h
   have:=List.reverse_inj.1 h
   rw[<-vv a,this,vv]
def inL(l m:List (List UInt8)):Bool:=decide (m.length<=l.length)&&(l.drop (l.length - m.length) == m)
theorem LX{l m:List (List UInt8)} : inL l m=true↔∃ p,l=p++m:=by
 unfold inL;simp only[Bool.and_eq_true,Qa,beq_iff_eq];constructor
 ·rintro⟨h1,h2⟩;refine⟨l.take (l.length - m.length),?_⟩;rw[<-h2,List.length_drop]
  conv => lhs;rw[<-List.take_append_drop (l.length - m.length) l]
  congr 2;omega
 ·rintro⟨p,rfl⟩;refine⟨by simp,?_⟩;rw[List.length_append,Nat.add_sub_cancel,List.drop_left]
theorem zg{s z:List UInt8}(hz:z≠[]):inL (dO s) (dO z)=bg s z:=by
 rw[Bool.eq_iff_iff,LX];unfold bg dO;simp only[Bool.or_eq_true,Bool.and_eq_true,beq_iff_eq,Qa];by_cases h1:z = [46]
 ·rw[Qb h1];exact⟨λ_=>.inl (.inr h1),λ_=>⟨_,(List.append_nil _).symm⟩⟩
 ·rw[Qc h1];by_cases h2:s = [46]
  ·rw[Qb h2];constructor
   ·rintro⟨p,hp⟩
    have:=List.append_eq_nil_iff.1 hp.symm
    exact absurd this.2 (oS z)
   ·rintro ((h | h) | ⟨⟨h3,_⟩,_⟩)
    ·exact absurd (h ▸ h2) h1
    ·exact absurd h h1
    ·subst h2;have h4:z.length<1:=h3;exact absurd (rQ (by omega)) hz
  ·rw[Qc h2];constructor
   ·rintro⟨p,hp⟩;by_cases h0:p = []
    ·subst h0;rw[List.nil_append] at hp;left;left;rw[<-vv s,hp,vv]
    ·right;have hs:s=iZ p++46::z:=by
      rw[<-vv s,hp,VY _ _ h0 (oS z),vv]
     subst hs;refine⟨⟨by simp;omega,?_⟩,?_⟩
     ·rw[show (iZ p++46::z).length - z.length=(iZ p ++ [46]).length by simp;omega,show iZ p++46::z=(iZ p ++ [46])++z by simp,List.drop_left]
     ·rw[show (iZ p++46::z).length - z.length - 1=(iZ p).length by simp;omega];rw[oQ (bQ _)];simp
   ·rintro ((h | h) | ⟨⟨h3,h4⟩,h5⟩)
    ·exact⟨[],by rw[h];rfl⟩
    ·exact absurd h h1
    ·have hs:s=s.take (s.length - z.length - 1)++46::z:=by
      conv => lhs;rw[<-List.take_append_drop (s.length - z.length - 1) s]
      congr 1;obtain⟨hl,he⟩:=cQ.1 h5;rw[sQ hl,he,show s.length - z.length - 1+1=s.length - z.length by omega,h4]
     refine⟨aO (s.take (s.length - z.length - 1)),?_⟩
     conv => lhs;rw[hs]
     rw[zA]
def bW:List (List UInt8)->List (List UInt8)->Int
 | [],[]=>0
 | [],_::_=>-1
 | _::_,[]=>1
 | x::xs,y::ys=>if bV x y≠0 then bV x y else bW xs ys
theorem sR(x:List UInt8):bV x x=0:=by
 have:∀ x:List UInt8,Go.Op.bytesLess x x=false:=by
  intro x
  induction x with
  | nil=>rfl
  | cons a x ih=>simp[Go.Op.bytesLess,ih]
 simp[bV,this]
theorem pp{x y:List UInt8}(h:bV x y=0):x=y:=by
 unfold bV at h;split at h
 ·omega
 ·split at h
  ·assumption
  ·omega
theorem MD(l:List (List UInt8)):bW l l=0:=by
 induction l with
 | nil=>rfl
 | cons x l ih=>rw[bW,sR,Qc (by simp),ih]
theorem W7:∀ (l m:List (List UInt8)),l≠m->bW l m=lJ l m:=by
 intro l
 induction l with
 | nil=>
  intro m h
  cases m with
  | nil=>exact absurd rfl h
  | cons y m=>rfl
 | cons x l ih=>
  intro m h
  cases m with
  | nil=>rfl
  | cons y m=>
   rw[bW,lJ];by_cases hc:bV x y≠0
   ·rw[Qb hc,Qb hc]
   ·rw[Qc hc,Qc hc]
    have:=pp (Decidable.not_not.1 hc)
    subst this;exact ih m (λe=>h (by rw[e]))
theorem xI(a b:List UInt8):aD a b=bW (back a) (back b):=by
 unfold aD;split
 ·rename_i h;rw[h,MD]
 ·rename_i h;exact (W7 _ _ (λe=>h (xG e))).symm
theorem xJ(a:List UInt8):aD a a=0:=by simp[aD]
theorem AN{a b:List UInt8}(h:aD a b=0):a=b:=by
 rw[xI] at h;refine xG ?_
 have:∀ l m:List (List UInt8),bW l m=0->l=m:=by
  intro l
  induction l with
  | nil=>intro m h;cases m with
    | nil=>rfl
    | cons y m=>simp[bW] at h
  | cons x l ih=>
   intro m h
   cases m with
   | nil=>simp[bW] at h
   | cons y m=>
    rw[bW] at h;split at h
    ·rename_i hc;exact absurd h hc
    ·rename_i hc;rw[pp (Decidable.not_not.1 hc),ih m h]
 exact this _ _ h
theorem AO(a b:DSet):fW a b=if aD a.name b.name≠0 then aD a.name b.name else bX a.type b.type:=by
 unfold fW;by_cases h:a.name=b.name
 ·rw[Qc (by simp[h]),h,xJ,Qc (by simp)]
 ·rw[Qb h,Qb (λe=>h (AN e))]
theorem Rj:∀ (x y:List UInt8),Go.Op.bytesLess x y=false->x≠y->Go.Op.bytesLess y x=true:=by
 intro x
 induction x with
 | nil=>intro y h hn;cases y with
   | nil=>exact absurd rfl hn
   | cons b y=>simp[Go.Op.bytesLess] at h
 | cons a x ih=>
  intro y h hn
  cases y with
  | nil=>simp[Go.Op.bytesLess]
  | cons b y=>
   simp only[Go.Op.bytesLess] at h |-;by_cases h1:a<b
   ·simp[h1] at h
   ·by_cases h2:b<a
    ·simp[h2]
    ·have h3:a=b:=by
      apply UInt8.toNat_inj.1;simp only[UInt8.lt_iff_toNat_lt] at h1 h2;omega
     subst h3;simp[h1] at h |-;exact ih y h (λe=>hn (by rw[e]))
theorem uB(x y:List UInt8):(Go.Op.bytesLess x y=true/\bV x y = -1)\/(Go.Op.bytesLess x y=false/\Go.Op.bytesLess y x=true/\x≠y/\bV x y=1)\/(Go.Op.bytesLess x y=false/\Go.Op.bytesLess y x=false/\x=y/\bV x y=0):=by
 cases h:Go.Op.bytesLess x y with
 | true=>exact .inl ⟨rfl,by simp[bV,h]⟩
 | false=>
  by_cases hn:x=y
  ·subst hn;exact .inr (.inr ⟨rfl,h,rfl,sR x⟩)
  ·exact .inr (.inl ⟨rfl,Rj x y h hn,hn,by simp[bV,h,hn]⟩)
def Gh(a b:Datum):Bool:=if a.text≠b.text then Go.Op.bytesLess a.text b.text else if a.n≠b.n then decide (a.n<b.n) else decide (a.m<b.m)
theorem Wq(a b:Datum):Gh a b=decide (og a b<0):=by
 unfold Gh og;rcases uB a.text b.text with ⟨h1,h2⟩ | ⟨h1,_,h3,h2⟩ | ⟨_,_,h3,h2⟩
 ·have hn:a.text≠b.text:=λe=>by rw[e,sR] at h2;omega
  rw[Qb hn,Qb (by omega),h1,h2];rfl
 ·rw[Qb h3,Qb (by omega),h1,h2];rfl
 ·rw[Qc (show ¬ a.text≠b.text from λe=>e h3),Qc (show ¬ bV a.text b.text≠0 from λe=>e h2)];by_cases h4:a.n=b.n
  ·rw[Qc (show ¬ a.n≠b.n from λe=>e h4)];have h5:bX a.n b.n=0:=by unfold bX;rw[Qc (by omega),Qc (by omega)]
   rw[Qc (show ¬ bX a.n b.n≠0 from λe=>e h5)];unfold bX;by_cases h6:a.m<b.m
   ·rw[Qb h6];simp[h6]
   ·by_cases h7:b.m<a.m
    ·rw[Qc h6,Qb h7];simp;omega
    ·rw[Qc h6,Qc h7];simp;omega
  ·rw[Qb (show a.n≠b.n from h4)];by_cases h6:a.n<b.n
   ·have h5:bX a.n b.n = -1:=by unfold bX;rw[Qb h6]
    rw[h5];simp[h6]
   ·have h5:bX a.n b.n=1:=by unfold bX;rw[Qc h6,Qb (by omega)]
    rw[h5];simp;omega
structure TO{α:Type}(c:α->α->Int):Prop where
 self:∀ x,c x x=0
 zero:∀ x y,c x y=0->x=y
 anti:∀ x y,c x y<0->0<c y x
 anti':∀ x y,0<c x y->c y x<0
 trans:∀ x y z,c x y<0->c y z<0->c x z<0
theorem TO.lex{α β γ:Type}{c:α->α->Int}{d:β->β->Int}(hc:TO c)(hd:TO d)(f:γ->α)(g:γ->β)(TY:∀ x y,f x=f y->g x=g y->x=y):TO (λx y:γ=>if c (f x) (f y)≠0 then c (f x) (f y) else d (g x) (g y)) where
 self x:=by simp[hc.self,hd.self]
 zero x y h:=by
  by_cases h1:c (f x) (f y)≠0
  ·rw[Qb h1] at h;exact absurd h h1
  ·rw[Qc h1] at h;exact TY x y (hc.zero _ _ (Decidable.not_not.1 h1)) (hd.zero _ _ h)
 anti x y h:=by
  by_cases h1:c (f x) (f y)≠0
  ·rw[Qb h1] at h
   have:=hc.anti _ _ h
   rw[Qb (by omega)];exact this
  ·rw[Qc h1] at h;have e:=hc.zero _ _ (Decidable.not_not.1 h1);rw[e,hc.self,Qc (by simp)];exact hd.anti _ _ h
 anti' x y h:=by
  by_cases h1:c (f x) (f y)≠0
  ·rw[Qb h1] at h
   have:=hc.anti' _ _ h
   rw[Qb (by omega)];exact this
  ·rw[Qc h1] at h;have e:=hc.zero _ _ (Decidable.not_not.1 h1);rw[e,hc.self,Qc (by simp)];exact hd.anti' _ _ h
 trans x y z h k:=by
  by_cases h1:c (f x) (f y)≠0
  ·rw[Qb h1] at h;by_cases h2:c (f y) (f z)≠0
   ·rw[Qb h2] at k
    have:=hc.trans _ _ _ h k
    rw[Qb (by omega)];exact this
   ·have e:=hc.zero _ _ (Decidable.not_not.1 h2);rw[<-e,Qb h1];exact h
  ·rw[Qc h1] at h;have e:=hc.zero _ _ (Decidable.not_not.1 h1);by_cases h2:c (f y) (f z)≠0
   ·rw[Qb h2] at k;rw[e,Qb h2];exact k
   ·rw[Qc h2] at k;rw[e,Qc h2];exact hd.trans _ _ _ h k
theorem TO.of{α β:Type}{c:α->α->Int}(hc:TO c)(f:β->α)(hf:∀ x y,f x=f y->x=y):TO (λx y=>c (f x) (f y)) where
 self _:=hc.self _
 zero _ _ h:=hf _ _ (hc.zero _ _ h)
 anti _ _ h:=hc.anti _ _ h
 anti' _ _ h:=hc.anti' _ _ h
 trans _ _ _ h k:=hc.trans _ _ _ h k
theorem B6:∀ (x y:List UInt8),Go.Op.bytesLess x y=decide (x<y)
 | [],[]=>by simp[Go.Op.bytesLess]
 | _::_,[]=>by simp[Go.Op.bytesLess]
 | [],_::_=>by simp[Go.Op.bytesLess]
 | a::x,b::y=>by
   rw[Go.Op.bytesLess,B6 x y];simp only[List.cons_lt_cons_iff];by_cases h1:a<b <;> by_cases h2:a=b <;> by_cases h3:x<y <;> simp[h1,h2,h3]
theorem toS:TO bV where
 self:=sR
 zero _ _:=pp
 anti x y h:=by
  rcases uB x y with ⟨h1,h2⟩ | ⟨_,_,_,h2⟩ | ⟨_,_,_,h2⟩
  ·rcases uB y x with ⟨h3,h4⟩ | ⟨_,_,_,h4⟩ | ⟨_,_,h5,h4⟩
   ·rw[B6,Qa] at h1 h3;exact absurd h3 (List.lt_asymm h1)
   ·omega
   ·rw[h5,sR] at h;omega
  ·omega
  ·omega
 anti' x y h:=by
  rcases uB x y with ⟨_,h2⟩ | ⟨_,h1,_,h2⟩ | ⟨_,_,_,h2⟩
  ·omega
  ·simp[bV,h1]
  ·omega
 trans x y z h k:=by
  have e:∀ a b:List UInt8,bV a b<0->a<b:=λa b h=>by
   rcases uB a b with ⟨h1,h2⟩ | ⟨_,_,_,h2⟩ | ⟨_,_,_,h2⟩
   ·rw[B6,Qa] at h1;exact h1
   ·omega
   ·omega
  have:=List.lt_trans (e _ _ h) (e _ _ k)
  unfold bV;rw[B6,Qb (by simpa using this)];omega
theorem toI:TO bX where
 self x:=by unfold bX;rw[Qc (by omega),Qc (by omega)]
 zero x y h:=by unfold bX at h;split at h;omega;split at h <;> omega
 anti x y h:=by
  unfold bX at h |-;split at h
  ·rw[Qc (by omega),Qb (by omega)];omega
  ·split at h <;> omega
 anti' x y h:=by
  unfold bX at h |-;split at h
  ·omega
  ·split at h
   ·rw[Qb (by omega)];omega
   ·omega
 trans x y z h k:=by
  unfold bX at h k |-;split at h
  ·split at k
   ·rw[Qb (by omega)];omega
   ·split at k <;> omega
  ·split at h <;> omega
theorem toR:TO bW:=by
 have hs:=toS;refine⟨MD,?_,?_,?_,?_⟩
 ·intro l
  induction l with
  | nil=>intro m h;cases m with
    | nil=>rfl
    | cons y m=>simp[bW] at h
  | cons x l ih=>
   intro m h
   cases m with
   | nil=>simp[bW] at h
   | cons y m=>
    rw[bW] at h;split at h
    ·rename_i hc;exact absurd h hc
    ·rename_i hc;rw[pp (Decidable.not_not.1 hc),ih m h]
 ·intro l
  induction l with
  | nil=>intro m h;cases m with
    | nil=>simp[bW] at h
    | cons y m=>simp[bW]
  | cons x l ih=>
   intro m h
   cases m with
   | nil=>simp[bW] at h
   | cons y m=>
    rw[bW] at h |-;split at h
    ·have:=hs.anti _ _ h
     rw[Qb (by omega)];exact this
    ·rename_i hc;have e:=pp (Decidable.not_not.1 hc);subst e;rw[Qc hc];exact ih m h
 ·intro l
  induction l with
  | nil=>intro m h;cases m with
    | nil=>simp[bW] at h
    | cons y m=>simp[bW] at h
  | cons x l ih=>
   intro m h
   cases m with
   | nil=>simp[bW]
   | cons y m=>
    rw[bW] at h |-;split at h
    ·have:=hs.anti' _ _ h
     rw[Qb (by omega)];exact this
    ·rename_i hc;have e:=pp (Decidable.not_not.1 hc);subst e;rw[Qc hc];exact ih m h
 ·intro l
  induction l with
  | nil=>intro m n h k;cases m with
    | nil=>simp[bW] at h
    | cons y m=>cases n with
      | nil=>simp[bW] at k
      | cons z n=>simp[bW]
  | cons x l ih=>
   intro m n h k
   cases m with
   | nil=>simp[bW] at h
   | cons y m=>
    cases n with
    | nil=>simp[bW] at k
    | cons z n=>
     rw[bW] at h k |-;by_cases hc:bV x y≠0
     ·rw[Qb hc] at h;by_cases hd:bV y z≠0
      ·rw[Qb hd] at k
       have:=hs.trans _ _ _ h k
       rw[Qb (by omega)];exact this
      ·have e:=pp (Decidable.not_not.1 hd);rw[<-e,Qb hc];exact h
     ·rw[Qc hc] at h;have e:=pp (Decidable.not_not.1 hc);by_cases hd:bV y z≠0
      ·rw[Qb hd] at k;rw[e,Qb hd];exact k
      ·rw[Qc hd] at k;rw[e,Qc hd];exact ih m n h k
theorem er:TO aD:=by
 have:=toR.of back (λ_ _ h=>xG h)
 have e:aD=λx y=>bW (back x) (back y):=by funext x y;exact xI x y
 rw[e];exact this
def eh(a b:List UInt8×Int):Int:=if aD a.1 b.1≠0 then aD a.1 b.1 else bX a.2 b.2
theorem vP:TO eh:=er.lex toI (λd:List UInt8×Int=>d.1) (λd=>d.2) (λ_ _ h k=>Prod.ext h k)
def dM(s:DSet):List UInt8×Int:=(s.name,s.type)
theorem Eu(a b:DSet):fW a b=eh (dM a) (dM b):=AO a b
theorem Wp{α:Type}{c:α->α->Int}(h:TO c)(x y z:α):(!decide (c y x<0))=true->(!decide (c z y<0))=true->(!decide (c z x<0))=true:=by
 simp only[Bool.not_eq_true',decide_eq_false_iff_not,Int.not_lt];intro h1 h2;apply Decidable.byContradiction;intro h3;have h4:c z x<0:=by omega
 rcases Int.lt_or_eq_of_le h1 with h5 | h5
 ·have:=h.trans _ _ _ h4 (h.anti' _ _ h5);omega
 ·have:=h.zero _ _ h5.symm;subst this;omega
theorem Wo{α:Type}{c:α->α->Int}(h:TO c)(x y:α):((!decide (c y x<0))||(!decide (c x y<0)))=true:=by
 by_cases h1:c y x<0
 ·have:=h.anti _ _ h1
  have:¬ c x y<0:=by omega
  simp[this]
 ·simp[h1]
theorem mL{s z:List UInt8}(hz:z≠[]):bg s z=true↔back z <+: back s:=by
 rw[<-zg hz,LX,<-zk,<-zk];constructor
 ·rintro⟨p,h⟩;exact⟨p.reverse,by rw[h,List.reverse_append]⟩
 ·rintro⟨p,h⟩;refine⟨p.reverse,?_⟩
  have:=Qd List.reverse h
  simpa using this.symm
theorem MP:∀ (c n:List (List UInt8)),c <+: n->bW c n<=0
 | [],[],_=>by simp[bW]
 | [],_::_,_=>by simp[bW]
 | x::c,[],h=>by have:=h.length_le;simp at this
 | x::c,y::n,h=>by
   obtain⟨rfl,h2⟩:=List.cons_prefix_cons.1 h;rw[bW,sR,Qc (by simp)];exact MP c n h2
theorem MO:∀ (c a b:List (List UInt8)),c <+: b->bW c a<=0->bW a b<=0->c <+: a
 | [],a,b,_,_,_=>List.nil_prefix
 | x::c,[],b,_,h,_=>by simp[bW] at h
 | x::c,y::a,[],h,_,_=>by have:=h.length_le;simp at this
 | x::c,y::a,z::b,h,h1,h2=>by
   obtain⟨rfl,h3⟩:=List.cons_prefix_cons.1 h;rw[bW] at h1 h2;by_cases bR:bV x y=0
   ·have e:=pp bR;subst e;rw[sR,Qc (by simp)] at h1 h2;exact List.cons_prefix_cons.2 ⟨rfl,MO c a b h3 h1 h2⟩
   ·rw[Qb bR] at h1
    have:=toS.anti x y (by omega)
    rw[Qb (by omega)] at h2;omega
theorem CF{s z:List UInt8}(hz:z≠[])(h:bg s z=true):aD z s<=0:=by
 rw[xI];exact MP _ _ ((mL hz).1 h)
theorem GO{c a b:List UInt8}(hc:c≠[])(h:bg b c=true)(h1:aD c a<=0)(h2:aD a b<=0):bg a c=true:=by
 rw[xI] at h1 h2;exact (mL hc).2 (MO _ _ _ ((mL hc).1 h) h1 h2)
theorem GP{a b c:List UInt8}(hb:b≠[])(hc:c≠[])(h1:bg a b=true)(h2:bg b c=true):bg a c=true:=
 (mL hc).2 (((mL hc).1 h2).trans ((mL hb).1 h1))
theorem CG(a:List UInt8):bg a a=true:=by simp[bg]
theorem NZ{n a b:List UInt8}(ha:a≠[])(hb:b≠[])(h1:bg n a=true)(h2:bg n b=true):bg a b=true\/bg b a=true:=by
 rcases List.prefix_or_prefix_of_prefix ((mL ha).1 h1) ((mL hb).1 h2) with h | h
 ·exact .inr ((mL ha).2 h)
 ·exact .inl ((mL hb).2 h)
def ig(C:List UInt8->Bool)(n o:List UInt8):Prop:=
 (o = []/\∀ c,C c=true->bg n c=false)\/(C o=true/\bg n o=true/\∀ c,C c=true->bg o c=true->c=o)
theorem ig.unique{C:List UInt8->Bool}(hC:∀ c,C c=true->c≠[]){n a b:List UInt8}(ha:ig C n a)(hb:ig C n b):a=b:=by
 rcases ha with ⟨rfl,ha⟩ | ⟨a1,a2,a3⟩
 ·rcases hb with ⟨rfl,_⟩ | ⟨b1,b2,_⟩
  ·rfl
  ·rw[ha b b1] at b2;cases b2
 ·rcases hb with ⟨rfl,hb⟩ | ⟨b1,b2,b3⟩
  ·rw[hb a a1] at a2;cases a2
  ·rcases NZ (hC a a1) (hC b b1) a2 b2 with h | h
   ·exact (a3 b b1 h).symm
   ·exact b3 a a1 h
theorem ig.above{C:List UInt8->Bool}(hC:∀ c,C c=true->c≠[]){n o c:List UInt8}(h:ig C n o)(hc:C c=true)(hu:bg n c=true):C o=true/\bg n o=true/\bg c o=true:=by
 rcases h with ⟨_,h⟩ | ⟨h1,h2,h3⟩
 ·rw[h c hc] at hu;cases hu
 ·refine⟨h1,h2,?_⟩;rcases NZ (hC o h1) (hC c hc) h2 hu with h | h
  ·rw[h3 c hc h];exact CG o
  ·exact h
def cS(C:List UInt8->Bool)(cut n:List UInt8):List UInt8:=
 if (if cut≠[]/\bg n cut=false then [] else cut) = []/\C n=true then n else if cut≠[]/\bg n cut=false then [] else cut
theorem NO{C:List UInt8->Bool}{n:List UInt8}(h:∀ c,C c=true->bg n c=true->c=n):ig C n (if C n=true then n else []):=by
 split
 ·rename_i hn;exact .inr ⟨hn,CG n,h⟩
 ·rename_i hn;refine .inl ⟨rfl,λc hc=>?_⟩
  cases hu:bg n c with
  | false=>rfl
  | true=>rw[<-h c hc hu] at hn;exact absurd hc hn
theorem Y7{C:List UInt8->Bool}(hC:∀ c,C c=true->c≠[]){n:List UInt8}(aH:∀ c,C c=true->¬ aD c n<0):ig C n (cS C [] n):=by
 have h:=NO (n:=n) (λc hc hu=>by
  have h1:=CF (hC c hc) hu;have h2:=aH c hc;exact AN (by omega))
 have e:cS C [] n=if C n=true then n else []:=by simp[cS]
 rw[e];exact h
theorem Y8{C:List UInt8->Bool}(hC:∀ c,C c=true->c≠[]){m cut n:List UInt8}(hm:ig C m cut)(fM:aD m n<=0)(aH:∀ c,C c=true->aD c n<0->aD c m<=0):ig C n (cS C cut n):=by
 by_cases hcut:cut≠[]/\bg n cut=true
 ·have e:cS C cut n=cut:=by simp[cS,hcut.1,hcut.2]
  rw[e];rcases hm with ⟨h,_⟩ | ⟨h1,_,h3⟩
  ·exact absurd h hcut.1
  ·exact .inr ⟨h1,hcut.2,h3⟩
 ·have lk:∀ c,C c=true->bg n c=true->c=n:=λc hc hu=>by
   refine Classical.byContradiction λhne=>hcut ?_;have h1:=CF (hC c hc) hu;have aa:aD c n<0:=by
    rcases Int.lt_or_eq_of_le h1 with h | h
    ·exact h
    ·exact absurd (AN h) hne
   have h2:=GO (hC c hc) hu (aH c hc aa) fM;obtain⟨a1,_,a3⟩:=hm.above hC hc h2;exact⟨hC _ a1,GP (hC c hc) (hC _ a1) hu a3⟩
  have h:=NO lk;have e:cS C cut n=if C n=true then n else []:=by
   unfold cS;by_cases h0:cut = []
   ·subst h0;simp
   ·have:bg n cut=false:=by
     cases hu:bg n cut with
     | false=>rfl
     | true=>exact absurd ⟨h0,hu⟩ hcut
    simp[h0,this]
  rw[e];exact h
structure I8(C:List UInt8->Bool)(H:List (List UInt8)):Prop where
 cut:∀ h∈H,C h=true/\∀ c,C c=true->bg h c=true->c=h
 sorted:H.Pairwise λa b=>aD a b<0
theorem T9{C:List UInt8->Bool}(hC:∀ c,C c=true->c≠[]){H:List (List UInt8)}(hH:I8 C H){n:List UInt8}(aH:∀ h,C h=true->(∀ c,C c=true->bg h c=true->c=h)->aD h n<=0->h∈H){k:Nat}(hk:k<=H.length)(h1:∀ j (hj:j<H.length),j<k->aD H[j] n<=0)(h2:∀ j (hj:j<H.length),k<=j->0<aD H[j] n) :
 ig C n (if h:0<k/\bg n (H[k - 1]?.getD [])=true then H[k - 1]?.getD [] else []):=by
 have fN:∀ c,C c=true->bg n c=true->(∀ d,C d=true->bg c d=true->d=c)->0<k/\∃ bM:k - 1<H.length,H[k - 1]=c:=λc hc hu ht=>by
  have fM:=CF (hC c hc) hu;obtain⟨j,hj,rfl⟩:=nQ.1 (aH c hc ht fM);have re:j<k:=by
   refine Nat.lt_of_not_le λh=>?_
   have:=h2 j hj h
   omega
  refine⟨by omega,by omega,?_⟩;rcases Nat.lt_or_ge j (k - 1) with h | h
  ·have h3:=List.pairwise_iff_getElem.1 hH.sorted j (k - 1) hj (by omega) h;have h4:=h1 (k - 1) (by omega) (by omega);have h5:=GO (hC _ hc) hu (by omega) h4;have h6:=(hH.cut _ (List.getElem_mem (show k - 1<H.length by omega))).2 _ hc h5;exact h6.symm
  ·obtain rfl:j=k - 1:=by omega
   rfl
 split
 ·rename_i h;obtain⟨h0,h⟩:=h;have hl:k - 1<H.length:=by omega
  rw[aQ hl] at h |-;obtain⟨a,b⟩:=hH.cut _ (List.getElem_mem hl);exact .inr ⟨a,h,b⟩
 ·rename_i h;refine .inl ⟨rfl,λc hc=>?_⟩
  cases hu:bg n c with
  | false=>rfl
  | true=>
   exfalso;have hex:∀ (m:Nat) (c:List UInt8),(back c).length<=m->C c=true->bg n c=true->∃ t,C t=true/\bg n t=true/\∀ d,C d=true->bg t d=true->d=t:=by
    intro m
    induction m with
    | zero=>
     intro c hm hc hu;refine⟨c,hc,hu,λd hd Fg=>?_⟩;have h3:=((mL (hC d hd)).1 Fg);exact xG (h3.eq_of_length_le (by omega))
    | succ m ih=>
     intro c hm hc hu;by_cases ht:∀ d,C d=true->bg c d=true->d=c
     ·exact⟨c,hc,hu,ht⟩
     ·obtain⟨d,hd⟩:=Classical.not_forall.1 ht;obtain⟨gS,hd⟩:=Classical.not_imp.1 hd;obtain⟨jX,Fl⟩:=Classical.not_imp.1 hd;have h3:=((mL (hC d gS)).1 jX);refine ih d ?_ gS (GP (hC c hc) (hC d gS) hu jX);refine Nat.le_of_lt_succ (lQ (Nat.lt_of_not_le λhl=>Fl (xG (h3.eq_of_length_le hl))) hm)
   obtain⟨t,t1,t2,t3⟩:=hex _ c (bQ _) hc hu;obtain⟨p1,p2,p3⟩:=fN t t1 t2 t3;refine h ⟨p1,?_⟩;rw[aQ p2,p3];exact t2
end Np
section
open Go.RowKit
theorem Yn{a b:Bool}(h:a=b):Ending.returned (.tuple #[.bool a,.int .i64 0]) = .returned (.tuple #[.bool b,.int .i64 0]):=by rw[h]
def Np.vO(s z:ByteArray):Bool:=decide (z.size<=s.size)&&((s.extract (s.size - z.size) s.size).toList == z.toList)
def Np.under(s z:ByteArray):Bool:=(s.toList == z.toList)||(z.toList == [46])||(decide (z.size<s.size)&&Np.vO s z&&((s.data.toList[s.size - z.size - 1]?).map UInt8.toNat == some 46))
theorem Zb(s z:ByteArray)(h:z.size<=s.size):Np.vO s z=(s.data.toList.drop (s.data.toList.length - z.data.toList.length) == z.data.toList):=by
 unfold Np.vO;rw[uQ h,Bool.true_and,dQ,dQ,AT,aU,aU]
theorem Zm(s z:ByteArray):Np.under s z=Np.bg s.data.toList z.data.toList:=by
 unfold Np.under Np.bg;rw[dQ,dQ,aU,aU];congr 1;by_cases h:z.size<s.size
 ·rw[Zb s z (by omega),aU,aU,uQ h];congr 1;have e:s.data.toList[s.size - z.size - 1]?=some (s[s.size - z.size - 1]'(by omega)):=uF s _ (by omega);rw[e];simp only[Option.map_some];rw[Bool.eq_iff_iff];simp only[beq_iff_eq,Option.some.injEq];constructor
  ·intro h;apply UInt8.toNat_inj.1;rw[h];rfl
  ·intro h;rw[h];rfl
 ·rw[tQ h];rfl
theorem Tk(s z:ByteArray)(hs:s.size<=140737488355328)(hz:z.size<=140737488355328)(w:World) :
 Calls prog 320 #[.string s,.string z] w λe w'=>e = .returned (.bool (Np.vO s z))/\w'=w:=by
 go_enter func320,ntmps320;go_wp2_with fail
 all_goals
  go_ret;refine⟨ae ?_,rfl⟩;simp_all [Np.vO] <;> (intros;omega)
theorem Tj(s z:ByteArray)(hs:s.size<=140737488355328)(hz:z.size<=140737488355328)(w:World) :
 Calls prog 250 #[.string s,.string z] w λe w'=>e = .returned (.bool (Np.vO s z))/\w'=w:=by
 go_enter func250,ntmps250;go_wp2_with (go_at_call 320;refine (Tk s z hs hz _).mono ?_;rintro e w' ⟨rfl,rfl⟩);go_ret;exact⟨rfl,rfl⟩
theorem GQ(s z:ByteArray)(hs:s.size<=140737488355328)(hz:z.size<=140737488355328)(w:World)(v1:Np.aC s.data.toList=true)(v2:Np.aC z.data.toList=true) :
 Calls prog 184 #[.string s,.string z] w λe w'=>e = .returned (.tuple #[.bool (Np.bg s.data.toList z.data.toList),.int .i64 0])/\Below w.heap.size w w':=by
 rw[<-Zm];have V1:=jq v1;have V2:=jq v2;clear v1 v2;go_enter func184,ntmps184;go_wp2_with (first
  | (go_at_call 175;have v1:=V1.out;clear V1;refine (valid_any s hs _).mono ?_;rintro e w1 ⟨rfl,hb⟩;rw[v1];clear v1;have aq:=jq hb;clear hb)
  | (go_at_call 175;have v2:=V2.out;clear V2;refine (valid_any z hz _).mono ?_;rintro e w2 ⟨rfl,hb⟩;rw[v2];clear v2;have aj:=jq hb;clear hb)
  | (go_at_call 250;refine (Tj s z hs hz _).mono ?_;rintro e w3 ⟨rfl,rfl⟩))
 all_goals
  go_ret2;refine⟨Yn ?_,aq.out.trans (aj.out.mono aq.out.size)⟩;simp_all [Np.under,dQ]
 ·rename_i _ h1 h2 h3 _;have e1:(s.data == z.data)=false:=by simpa using h1
  have e2:(z.data.toList == [46])=false:=by simpa using h2
  have e3:s.data[s.size - z.size - 1]?=some s[s.size - z.size - 1]:=pQ (by simp;omega);rw[e1,e2,e3,Bool.eq_iff_iff];simp;omega
 ·intros;omega
theorem Oy(s1 s2:ByteArray)(bi:s1.size<=140737488355328)(gX:s2.size<=140737488355328)(t1 t2:Int)(n1:Np.aC s1.data.toList=true)(n2:Np.aC s2.data.toList=true)(w:World) :
 Calls prog 270 #[.string s1,.int .i64 t1,.string s2,.int .i64 t2] w
  λe w'=>e = .returned (.int .i64 (Np.eh (s1.data.toList,t1) (s2.data.toList,t2)))/\Below w.heap.size w w':=by
 have hv:cmpVal s1.data.toList s2.data.toList = .tuple #[.int .i64 (Np.aD s1.data.toList s2.data.toList),.int .i64 0]:=by rw[cmpVal,n1,n2];rfl
 have HV:=jq hv;clear hv n1 n2;by_cases h:s1.data.toList=s2.data.toList
 ·have he:(!s1.toList == s2.toList)=false:=by rw[dQ,dQ,h];simp
  have hc:Np.eh (s1.data.toList,t1) (s2.data.toList,t2)=Np.bX t1 t2:=by unfold Np.eh;dsimp only;rw[h,Np.xJ,Qc (by simp)]
  rw[hc];clear hc h;go_enter func270,ntmps270;go_wp2_with (go_at_call 123;refine (xH _ _ _).mono ?_;rintro e w' ⟨rfl,rfl⟩);go_ret;exact⟨rfl,vQ _ _⟩
 ·have he:(!s1.toList == s2.toList)=true:=by rw[dQ,dQ];simpa using h
  have hc:Np.eh (s1.data.toList,t1) (s2.data.toList,t2)=Np.aD s1.data.toList s2.data.toList:=by unfold Np.eh;dsimp only;rw[Qb (λe=>h (Np.AN e))]
  rw[hc];clear hc h;go_enter func270,ntmps270;go_wp2_with fail;refine (compare_any s1 s2 bi gX _).mono ?_;rintro e w1 ⟨rfl,hb⟩;rw[HV.out];have HB:=jq hb;clear hb;go_wp2_with fail;go_ret;exact⟨rfl,HB.out⟩
theorem CH{s:Np.DSet}(h:Np.cW s=true):Np.aC s.name=true:=by
 unfold Np.cW at h;simp only[Bool.and_eq_true] at h;exact h.1.1.1.1.1.1
end
namespace Np
def bZ(z:Zone)(n:List UInt8):Bool:=z.sets.any λx=>decide (x.set.type=2)&&!(x.set.name == z.apex)&&x.set.name == n
theorem Ev{z:Zone}{n:List UInt8} : bZ z n=true↔∃ x∈z.sets,x.set.type=2/\x.set.name≠z.apex/\x.set.name=n:=by
 unfold bZ;rw[List.any_eq_true];constructor
 ·rintro⟨x,hx,h⟩;simp only[Bool.and_eq_true,Qa,Bool.not_eq_true',beq_eq_false_iff_ne,beq_iff_eq] at h;exact⟨x,hx,h.1.1,h.1.2,h.2⟩
 ·rintro⟨x,hx,h1,h2,h3⟩;refine⟨x,hx,?_⟩;rw[h3] at h2 |-;simp[h1,h2]
def mr(C:List UInt8->Bool):List UInt8->List Signed->List (List UInt8)
 | _,[]=>[]
 | cut,x::r=>cS C cut x.set.name::mr C (cS C cut x.set.name) r
def dl(z:Zone):List (List UInt8):=mr (bZ z) [] z.sets
theorem Js(C:List UInt8->Bool):∀ (cut:List UInt8) (l:List Signed),(mr C cut l).length=l.length
 | _,[]=>rfl
 | cut,x::r=>by rw[mr,List.length_cons,Js,List.length_cons]
theorem qK(z:Zone):(dl z).length=z.sets.length:=Js _ _ _
structure InOrder(z:Zone):Prop where
 order:(z.sets.map (·.set)).Pairwise λa b=>fW a b<0
 name:∀ x∈z.sets,x.set.name≠[]
 type:∀ x∈z.sets,x.set.type<=8
theorem JA{a b:DSet}(h:fW a b<0):aD a.name b.name<=0:=by
 rw[AO] at h;split at h
 ·omega
 ·rename_i h0;have:=Decidable.not_not.1 h0;omega
theorem JB{a b:DSet}(h:fW a b<0)(he:a.name=b.name):a.type<b.type:=by
 rw[AO,he,xJ,Qc (by simp)] at h;unfold bX at h;split at h
 ·assumption
 ·split at h <;> omega
theorem InOrder.names{z:Zone}(h:InOrder z){i j:Nat}(dp:i<j)(hj:j<z.sets.length):aD (z.sets[i]'(by omega)).set.name (z.sets[j]).set.name<=0:=by
 have:=List.pairwise_iff_getElem.1 h.order i j (by simp;omega) (by simpa using hj) dp
 rw[List.getElem_map,List.getElem_map] at this;exact JA this
theorem InOrder.types{z:Zone}(h:InOrder z){i j:Nat}(dp:i<j)(hj:j<z.sets.length)(he:(z.sets[i]'(by omega)).set.name=(z.sets[j]).set.name):(z.sets[i]'(by omega)).set.type<(z.sets[j]).set.type:=by
 have:=List.pairwise_iff_getElem.1 h.order i j (by simp;omega) (by simpa using hj) dp
 rw[List.getElem_map,List.getElem_map] at this;exact JB this he
theorem WH{a b c:List UInt8}(h1:aD a b<=0)(h2:aD b c<=0)(he:a=c):b=a:=by
 subst he;by_cases h:aD a b<0
 ·have:=er.anti _ _ h;omega
 ·exact (er.zero _ _ (by omega)).symm
theorem xK{z:Zone}(h:InOrder z):∀ c,bZ z c=true->c≠[]:=λc hc=>by
 obtain⟨x,hx,_,_,rfl⟩:=Ev.1 hc;exact h.name x hx
theorem JJ{z:Zone}(h:InOrder z){c:List UInt8}(hc:bZ z c=true){i:Nat}(hi:i<z.sets.length)(aa:aD c (z.sets[i]).set.name<0):∃ j,∃ hj:j<i,(z.sets[j]'(by omega)).set.name=c:=by
 obtain⟨x,hx,_,_,rfl⟩:=Ev.1 hc;obtain⟨j,hj,rfl⟩:=nQ.1 hx;refine⟨j,?_,rfl⟩;refine Nat.lt_of_not_le λdp=>?_;rcases Nat.lt_or_eq_of_le dp with hl | rfl
 ·have h1:=h.names hl hj;have h2:=er.anti _ _ aa;omega
 ·rw[xJ] at aa;omega
theorem Jt{z:Zone}(h:InOrder z):∀ (l:List Signed) (i:Nat) (cut:List UInt8),z.sets.drop i=l->i<=z.sets.length->(i=0/\cut = []\/∃ hi:i - 1<z.sets.length,0<i/\ig (bZ z) (z.sets[i - 1]).set.name cut)->∀ (k:Nat) (x:Signed) (b:List UInt8),l[k]?=some x->(mr (bZ z) cut l)[k]?=some b->ig (bZ z) x.set.name b
 | [],_,_,_,_,_,k,x,b,hx,_=>by simp at hx
 | y::l,i,cut,hd,hi,hc,k,x,b,hx,hb=>by
   have dt:i<z.sets.length:=by
    have:=Qd List.length hd
    simp at this;omega
   have hy:z.sets[i]=y:=by
    have:=List.getElem?_drop (xs:=z.sets) (i:=i) (j:=0)
    rw[hd,Nat.add_zero,aQ dt] at this;simpa using this.symm
   have hd':z.sets.drop (i+1)=l:=by
    have:=Qd (List.drop 1) hd
    rw[List.drop_drop] at this;simpa using this
   have LE:ig (bZ z) y.set.name (cS (bZ z) cut y.set.name):=by
    rcases hc with ⟨rfl,rfl⟩ | ⟨h1,h0,hc⟩
    ·refine Y7 (xK h) (λc qV aa=>?_);rw[<-hy] at aa;obtain⟨j,hj,_⟩:=JJ h qV dt aa;omega
    ·refine Y8 (xK h) hc ?_ (λc qV aa=>?_)
     ·rw[<-hy];exact h.names (by omega) dt
     ·rw[<-hy] at aa;obtain⟨j,hj,Ue⟩:=JJ h qV dt aa;rw[<-Ue];rcases Nat.lt_or_eq_of_le (show j<=i - 1 by omega) with hl | he
      ·exact h.names hl h1
      ·subst he;rw[xJ];exact Int.le_refl 0
   cases k with
   | zero=>
    simp only[mr,List.getElem?_cons_zero,Option.some.injEq] at hx hb;rw[<-hx,<-hb];exact LE
   | succ k=>
    simp only[mr,List.getElem?_cons_succ] at hx hb;exact Jt h l (i+1) _ hd' dt (.inr ⟨by simpa using dt,by omega,by simpa [hy] using LE⟩) k x b hx hb
theorem Rd{z:Zone}(h:InOrder z){i:Nat}{x:Signed}{b:List UInt8}(hx:z.sets[i]?=some x)(hb:(dl z)[i]?=some b):ig (bZ z) x.set.name b:=
 Jt h z.sets 0 [] rfl (jQ _) (.inl ⟨rfl,rfl⟩) i x b hx hb
theorem Re{z:Zone}(h:InOrder z){B:List (List UInt8)}(hl:B.length=z.sets.length)(hB:∀ (i:Nat) (x:Signed) (b:List UInt8),z.sets[i]?=some x->B[i]?=some b->ig (bZ z) x.set.name b):B=dl z:=by
 refine List.ext_getElem (hl.trans (qK z).symm) λi h1 h2=>?_;have hi:i<z.sets.length:=by omega
 exact ig.unique (xK h) (hB i _ _ (aQ hi) (aQ h1)) (Rd h (aQ hi) (aQ h2))
def iI(t:Int)(at':Bool):Bool:=if t=3\/t=6 then !at' else if t=4\/t=7 then at' else true
structure SigOk(apex:List UInt8)(l:List Sig)(i:Nat)(g:Sig):Prop where
 zone:g.zone=apex
 key:1<=g.key/\g.key<=1000000
 alg:1<=g.alg/\g.alg<=3
 win:0<=g.frm/\g.frm<=g.til/\g.til<=20000000
 same:∀ a,l[0]?=some a->g.frm=a.frm/\g.til=a.til
 up:∀ p,l[i - 1]?=some p->0<i->p.key<g.key
def fw(apex:List UInt8)(l:List Sig):Prop:=l.length<=6/\∀ i g,l[i]?=some g->SigOk apex l i g
def jg(x:DSet)(b:List UInt8):Prop:=(b = []->x.type≠6)/\(b≠[]->b=x.name->x.type=2\/x.type=6\/x.type=8\/x.type=1)/\(b≠[]->b≠x.name->x.type=1)
structure VZone(z:Zone):Prop where
 right:dZ z=true
 few:z.sets.length<=20000
 start:∃ x∈z.sets,x.set.name=z.apex/\x.set.type=4
 server:∃ x∈z.sets,x.set.name=z.apex/\x.set.type=2
 fits:∀ x∈z.sets,iI x.set.type (x.set.name == z.apex)=true
 aliasBefore:∀ i (hi:i+1<z.sets.length),(z.sets[i+1]).set.type=3->(z.sets[i]).set.name≠(z.sets[i+1]).set.name
 aliasBehind:∀ i (hi:i+1<z.sets.length),(z.sets[i]).set.type=3->(z.sets[i+1]).set.name=(z.sets[i]).set.name->(z.sets[i+1]).set.type=8
 cuts:∀ (i:Nat) (x:Signed) (b:List UInt8),z.sets[i]?=some x->(dl z)[i]?=some b->jg x.set b
 sigs:∀ (i:Nat) (x:Signed) (b:List UInt8),z.sets[i]?=some x->(dl z)[i]?=some b->b≠[]->x.set.type=2\/x.set.type=1->x.sigs = []
 form:∀ x∈z.sets,fw z.apex x.sigs
theorem VZone.inOrder{z:Zone}(h:dZ z=true):InOrder z:=by
 unfold dZ at h;simp only[Bool.and_eq_true] at h;have aA:∀ (l:List Signed) (p:Option DSet),iJ z.apex p l=true->(p.toList++l.map (·.set)).Pairwise (λa b=>fW a b<0)/\∀ x∈l,cW x.set=true:=by
  intro l
  induction l with
  | nil=>intro p _;cases p <;> simp
  | cons x l ih=>
   intro p h;unfold iJ at h;rw[Bool.and_eq_true,Bool.and_eq_true,Bool.and_eq_true,Bool.and_eq_true] at h;obtain⟨i1,i2⟩:=ih (some x.set) h.2;have i1:(x.set::l.map (·.set)).Pairwise (λa b=>fW a b<0):=i1;refine⟨?_,λy hy=>?_⟩
   ·cases p with
    | none=>exact i1
    | some q=>
     have h2:fW q x.set<0:=by simpa using h.1.2
     refine List.pairwise_cons.2 ⟨λy hy=>?_,i1⟩;rcases List.mem_cons.1 hy with e | hy
     ·rw[e];exact h2
     ·have h3:=(List.pairwise_cons.1 i1).1 y hy;rw[Eu] at h2 h3 |-;exact vP.trans _ _ _ h2 h3
   ·rcases List.mem_cons.1 hy with e | hy
    ·subst e;exact h.1.1.2
    ·exact i2 y hy
 obtain⟨h1,h2⟩:=aA _ none h.2;refine⟨h1,λx hx=>?_,λx hx=>?_⟩
 ·have hv:=(tV (h2 x hx)).1;intro e;rw[e] at hv;exact absurd hv (by decide)
 ·exact (tV (h2 x hx)).2.2.1
def l6(l:List Signed):List UInt8:=l.foldl (λa x=>if x.set.type=3 then x.set.name else a) []
structure RZoneOk(z:Zone):Prop where
 right:dZ z=true
 few:z.sets.length<=20000
 start:∃ x∈z.sets,x.set.name=z.apex/\x.set.type=4
 server:∃ x∈z.sets,x.set.name=z.apex/\x.set.type=2
 fits:∀ x∈z.sets,iI x.set.type (x.set.name == z.apex)=true
 three:∀ i (hi:i+1<z.sets.length),(z.sets[i]).set.name=(z.sets[i+1]).set.name->(z.sets[i+1]).set.type≠3/\(l6 (z.sets.take (i+2))=(z.sets[i+1]).set.name->(z.sets[i+1]).set.type=8)
 cuts:∀ (i:Nat) (x:Signed) (b:List UInt8),z.sets[i]?=some x->(dl z)[i]?=some b->jg x.set b
 sigs:∀ (i:Nat) (x:Signed) (b:List UInt8),z.sets[i]?=some x->(dl z)[i]?=some b->b≠[]->x.set.type=2\/x.set.type=1->x.sigs = []
 form:∀ x∈z.sets,fw z.apex x.sigs
theorem Ge(l:List Signed)(x:Signed):l6 (l ++ [x])=if x.set.type=3 then x.set.name else l6 l:=by simp[l6]
theorem Mk:∀ (l:List Signed) (a:List UInt8),l.foldl (λa x=>if x.set.type=3 then x.set.name else a) a=a\/∃ (j:Nat) (hj:j<l.length),(l[j]).set.type=3/\(l[j]).set.name=l.foldl (λa x=>if x.set.type=3 then x.set.name else a) a
 | [],_=>.inl rfl
 | x::l,a=>by
   rw[List.foldl_cons];rcases Mk l (if x.set.type=3 then x.set.name else a) with h | ⟨j,hj,h1,h2⟩
   ·rw[h];split
    ·rename_i ht;exact .inr ⟨0,by simp,ht,rfl⟩
    ·exact .inl rfl
   ·exact .inr ⟨j+1,by simpa using hj,h1,h2⟩
theorem Wi(l:List Signed):l6 l = []\/∃ (j:Nat) (hj:j<l.length),(l[j]).set.type=3/\(l[j]).set.name=l6 l:=Mk l []
theorem ZL(z:Zone):VZone z↔RZoneOk z:=by
 constructor
 ·intro h;have ho:=VZone.inOrder h.right;refine⟨h.right,h.few,h.start,h.server,h.fits,λi hi he=>?_,h.cuts,h.sigs,h.form⟩;have h3:(z.sets[i+1]).set.type≠3:=λht=>h.aliasBefore i hi ht he;refine⟨h3,λhl=>?_⟩;rcases Wi (z.sets.take (i+2)) with e | ⟨j,hj,j1,j2⟩
  ·rw[e] at hl;exact absurd hl.symm (ho.name _ (List.getElem_mem hi))
  ·rw[List.getElem_take] at j1 j2;rw[hl] at j2;have uY:j<i+2:=by have:=hj;rw[List.length_take] at this;omega
   have rc:j≠i+1:=λe=>by subst e;exact h3 j1
   have lR:j+1<z.sets.length:=by omega
   have mB:(z.sets[j+1]).set.name=(z.sets[j]).set.name:=by
    rcases Nat.lt_or_eq_of_le (show j+1<=i+1 by omega) with hl | lc
    ·exact WH (ho.names (by omega) lR) (ho.names hl hi) j2
    ·have:j=i:=by omega
     subst this;exact he.symm
   have h8:=h.aliasBehind j lR j1 mB;rcases Nat.lt_or_eq_of_le (show j+1<=i+1 by omega) with hl | lc
   ·have h9:=ho.types hl hi (mB.trans j2);have uG:=ho.type _ (List.getElem_mem hi);omega
   ·have:j=i:=by omega
    subst this;exact h8
 ·intro h;have ho:=VZone.inOrder h.right;refine⟨h.right,h.few,h.start,h.server,h.fits,λi hi ht he=>?_,λi hi ht he=>?_,h.cuts,h.sigs,h.form⟩
  ·exact (h.three i hi he).1 ht
  ·obtain⟨h1,h2⟩:=h.three i hi he.symm;refine h2 ?_;have e1:z.sets.take (i+2)=z.sets.take (i+1) ++ [z.sets[i+1]]:=fQ hi;have e2:z.sets.take (i+1)=z.sets.take i ++ [z.sets[i]]:=fQ (by omega);rw[e1,Ge,Qc h1,e2,Ge,Qb ht];exact he.symm
end Np
namespace Np
variable {α:Type} [DecidableEq α]
def jp(o:List α)(x:α):List α:=if x∈o then o else o ++ [x]
def cE(l:List α):List α:=l.foldl jp []
theorem Wv{o:List α}{x y:α} : y∈jp o x↔y∈o\/y=x:=by
 unfold jp;split
 ·rename_i h;constructor
  ·exact .inl
  ·rintro (h1 | rfl);exact h1;exact h
 ·simp
theorem WN{o:List α}{x:α}(h:o.Nodup):(jp o x).Nodup:=by
 unfold jp;split
 ·exact h
 ·rename_i hx;exact List.nodup_append.2 ⟨h,by simp,λa ha b hb=>by rw[List.mem_singleton] at hb;rintro rfl;exact hx (hb ▸ ha)⟩
theorem Ms:∀ (l o:List α) (y:α),y∈l.foldl jp o↔y∈o\/y∈l
 | [],o,y=>by simp
 | x::l,o,y=>by
   rw[List.foldl_cons,Ms l,Wv,List.mem_cons,or_assoc]
theorem Mx:∀ (l o:List α),o.Nodup->(l.foldl jp o).Nodup
 | [],_,h=>h
 | _::l,_,h=>Mx l _ (WN h)
theorem tJ{l:List α}{y:α} : y∈cE l↔y∈l:=by unfold cE;rw[Ms];simp
theorem tK(l:List α):(cE l).Nodup:=Mx l [] List.nodup_nil
theorem zG(l:List α)(x:α):cE (l ++ [x])=jp (cE l) x:=by simp[cE]
theorem Ej{o:List α}{x:α}(h:x∈o):jp o x=o:=Qb h
theorem rM(l:List α):(cE l).length<=l.length:=by
 have:∀ (l o:List α),(l.foldl jp o).length<=o.length+l.length:=by
  intro l
  induction l with
  | nil=>intro o;simp
  | cons x l ih=>
   intro o;have h:=ih (jp o x);have h2:(jp o x).length<=o.length+1:=by unfold jp;split <;> simp
   rw[List.foldl_cons,List.length_cons];omega
 have h:=this l [];simpa [cE] using h
omit [DecidableEq α] in
theorem GJ{c:α->α->Int}(hc:TO c):∀ (l m:List α),l.Pairwise (λa b=>c a b<0)->m.Pairwise (λa b=>c a b<0)->(∀ x,x∈l↔x∈m)->l=m
 | [],[],_,_,_=>rfl
 | [],b::m,_,_,h=>by have:=(h b).2 (by simp);cases this
 | a::l,[],_,_,h=>by have:=(h a).1 (by simp);cases this
 | a::l,b::m,hl,hm,h=>by
   obtain⟨l1,l2⟩:=List.pairwise_cons.1 hl;obtain⟨m1,m2⟩:=List.pairwise_cons.1 hm;have e:a=b:=by
    rcases List.mem_cons.1 ((h a).1 (by simp)) with e | h1
    ·exact e
    ·rcases List.mem_cons.1 ((h b).2 (by simp)) with e | h2
     ·exact e.symm
     ·have:=hc.anti _ _ (l1 b h2)
      have:=m1 a h1
      omega
   subst e;rw[GJ hc l m l2 m2 (λx=>by
    constructor
    ·intro hx;rcases List.mem_cons.1 ((h x).1 (mQ _ hx)) with e | h1
     ·subst e;have:=l1 x hx;rw[hc.self] at this;omega
     ·exact h1
    ·intro hx;rcases List.mem_cons.1 ((h x).2 (mQ _ hx)) with e | h1
     ·subst e;have:=m1 x hx;rw[hc.self] at this;omega
     ·exact h1)]
def rL(l:List (List UInt8)):List (List UInt8):=l.mergeSort λa b=>!decide (aD b a<0)
theorem CB(l:List (List UInt8)):(rL l).Perm l:=List.mergeSort_perm _ _
theorem GD{l:List (List UInt8)}(h:l.Nodup):(rL l).Pairwise λa b=>aD a b<0:=by
 have hs:(rL l).Pairwise λa b=>(!decide (aD b a<0))=true:=List.pairwise_mergeSort (le:=λa b=>!decide (aD b a<0)) (λx y z=>Wp er x y z) (λx y=>Wo er x y) l;have hn:(rL l).Nodup:=(CB l).nodup_iff.2 h;refine (hs.and hn).imp λ{a b} ⟨h1,h2⟩=>?_;have h3:¬ aD b a<0:=by simpa using h1
 refine Int.lt_of_not_ge λh4=>?_;by_cases h5:0<aD a b
 ·exact h3 (er.anti' _ _ h5)
 ·exact h2 (er.zero _ _ (by omega))
def dS:List (List UInt8)->List UInt8->List (List UInt8)
 | [],a=>[a]
 | x::l,a=>if aD x a<0 then x::dS l a else if x=a then x::l else a::x::l
theorem MY:∀ (l:List (List UInt8)) (a:List UInt8),l.Pairwise (λa b=>aD a b<0)->(dS l a).Pairwise (λa b=>aD a b<0)/\∀ y,y∈dS l a↔y∈l\/y=a
 | [],a,_=>⟨by simp[dS],λy=>by simp[dS]⟩
 | x::l,a,h=>by
   obtain⟨h1,h2⟩:=List.pairwise_cons.1 h;rw[dS];split
   ·rename_i aa;obtain⟨i1,i2⟩:=MY l a h2;refine⟨List.pairwise_cons.2 ⟨λy hy=>?_,i1⟩,λy=>?_⟩
    ·rcases (i2 y).1 hy with hy | rfl
     ·exact h1 y hy
     ·exact aa
    ·rw[List.mem_cons,i2,List.mem_cons,or_assoc]
   ·rename_i aa;split
    ·rename_i he;subst he;refine⟨h,λy=>?_⟩;constructor
     ·exact .inl
     ·rintro (hy | rfl);exact hy;simp
    ·rename_i hne;have uM:aD a x<0:=by
      by_cases h0:0<aD x a
      ·exact er.anti' _ _ h0
      ·exact absurd (er.zero _ _ (by omega)) hne
     refine⟨List.pairwise_cons.2 ⟨λy hy=>?_,h⟩,λy=>?_⟩
     ·rcases List.mem_cons.1 hy with e | hy
      ·subst e;exact uM
      ·exact er.trans _ _ _ uM (h1 y hy)
     ·rw[List.mem_cons,Or.comm]
end Np
section
open Go.RowKit
def dj(_:World)(_:Nat)(e:List Value)(g:Np.Sig):Prop:=∃ s:ByteArray,s.data.toList=g.zone/\s.size<=140737488355328/\e = [.string s,.int .i64 g.key,.int .i64 g.alg,.int .i64 g.frm,.int .i64 g.til,.int .u64 g.sum]
theorem ep:cY dj:=λ_ _ _ _ _ h _=>h
theorem gp:dw dj:=λ_ _ _ _ _ h _=>h
def bh(W:World)(B:Nat)(e:List Value)(x:Np.Signed):Prop:=∃ (s:ByteArray) (v u:Value),s.data.toList=x.set.name/\s.size<=140737488355328/\SlR bn 3 W B v x.set.data/\SlR dj 6 W B u x.sigs/\e = [.string s,.int .i64 x.set.type,.int .i64 x.set.life,v,u]
theorem aX:cY bh:=λ_ _ _ _ _ ⟨s,v,u,h1,h2,h3,h4,h5⟩ hb=>⟨s,v,u,h1,h2,h3.keep de hb,h4.keep ep hb,h5⟩
theorem cj:dw bh:=λ_ _ _ _ _ ⟨s,v,u,h1,h2,h3,h4,h5⟩ hb=>⟨s,v,u,h1,h2,h3.more eN hb,h4.more gp hb,h5⟩
def QP(W:World)(B:Nat)(e:List Value)(z:Np.Zone):Prop:=∃ (s:ByteArray) (v:Value),s.data.toList=z.apex/\s.size<=140737488355328/\SlR bh 5 W B v z.sets/\e = [.string s,v]
theorem SlR.later{α:Type}{R:World->Nat->List Value->α->Prop}{sz:Nat}{w w':World}{v:Value}{xs:List α}(hk:cY R)(hm:dw R)(h:SlR R sz w w.heap.size v xs)(hb:Below w.heap.size w w'):SlR R sz w' w'.heap.size v xs:=(h.keep hk hb).more hm hb.size
theorem AR{w:World}{B:Nat}{v:Value}{xs:List Np.Datum}(h:SlR bn 3 w B v xs){k:Nat}{x:Np.Datum}(hx:xs[k]?=some x):∃ (b o c:Nat) (s:ByteArray),v = .slice (some ⟨b,o,none⟩) xs.length c/\b<B/\xs.length<=c/\s.data.toList=x.text/\s.size<=140737488355328/\
 w.cell? ⟨b,o+k * 3,none⟩=some (.string s)/\w.cell? ⟨b,o+k * 3+1,none⟩=some (.int .i64 x.n)/\w.cell? ⟨b,o+k * 3+2,none⟩=some (.int .i64 x.m):=by
 obtain⟨A,c,rfl,hc,_,he⟩:=h;obtain⟨b,o,e,rfl,hb,_,hce,s,h1,h2,rfl⟩:=he k x hx;exact⟨b,o,c,s,rfl,hb,hc,h1,h2,by have:=hce 0 _ rfl;simpa using this,hce 1 _ rfl,hce 2 _ rfl⟩
theorem eq{w:World}{B:Nat}{v:Value}{xs:List Np.Signed}(h:SlR bh 5 w B v xs){k:Nat}{x:Np.Signed}(hx:xs[k]?=some x):∃ (b o c:Nat) (s:ByteArray) (dv sv:Value),v = .slice (some ⟨b,o,none⟩) xs.length c/\b<B/\xs.length<=c/\s.data.toList=x.set.name/\s.size<=140737488355328/\SlR bn 3 w B dv x.set.data/\SlR dj 6 w B sv x.sigs/\
 w.cell? ⟨b,o+k * 5,none⟩=some (.string s)/\w.cell? ⟨b,o+k * 5+1,none⟩=some (.int .i64 x.set.type)/\w.cell? ⟨b,o+k * 5+2,none⟩=some (.int .i64 x.set.life)/\w.cell? ⟨b,o+k * 5+3,none⟩=some dv/\w.cell? ⟨b,o+k * 5+4,none⟩=some sv:=by
 obtain⟨A,c,rfl,hc,_,he⟩:=h;obtain⟨b,o,e,rfl,hb,_,hce,s,dv,sv,h1,h2,h3,h4,rfl⟩:=he k x hx;exact⟨b,o,c,s,dv,sv,rfl,hb,hc,h1,h2,h3,h4,by have:=hce 0 _ rfl;simpa using this,hce 1 _ rfl,hce 2 _ rfl,hce 3 _ rfl,hce 4 _ rfl⟩
theorem al{α:Type}{R:World->Nat->List Value->α->Prop}{sz:Nat}{w:World}{B:Nat}{v:Value}{xs:List α}(h:SlR R sz w B v xs):∃ A c,v = .slice A xs.length c/\xs.length<=c/\xs.length<=140737488355328:=by
 obtain⟨A,c,h1,h2,h3,_⟩:=h;exact⟨A,c,h1,h2,h3⟩
end
namespace Np
structure Host where
 name:List UInt8
 addr:Int
 owner:Int
deriving DecidableEq
structure Copy where
 host:Int
 frm:Int
 til:Int
 zone:Zone
deriving DecidableEq
structure Placed where
 host:Int
 zone:Zone
deriving DecidableEq
structure Held where
 zone:List UInt8
 signed:Signed
 fresh:List Span
 spans:List Span
deriving DecidableEq
structure Hist where
 hosts:List Host
 copies:List Copy
 anchor:DSet
 hints:List Int
 drift:Int
 stop:Int
structure WorldP where
 hosts:List Host
 zones:List Placed
 anchor:DSet
 hints:List Int
noncomputable def yes(P:Prop):Bool:=@decide P (Classical.propDecidable P)
theorem bB{P:Prop}(h:P):yes P=true:=by unfold yes;exact @uQ _ (Classical.propDecidable P) h
theorem aF{P:Prop}(h:¬ P):yes P=false:=by unfold yes;exact @tQ _ (Classical.propDecidable P) h
theorem ew{P:Prop} : yes P=true↔P:=by unfold yes;exact @decide_eq_true_iff _ (Classical.propDecidable P)
theorem ql{P Q:Prop}(h:P↔Q):yes P=yes Q:=by rw[Bool.eq_iff_iff,ew,ew];exact h
structure HostOk(h:Host):Prop where
 name:aC h.name=true
 wild:dL h.name=false
 addr:1<=h.addr/\h.addr<=1000000
 owner:0<=h.owner/\h.owner<=31
structure VHosts(l:List Host):Prop where
 few:l.length<=64
 each:∀ h∈l,HostOk h
 addrs:(l.map (·.addr)).Nodup
structure VRoot(a:DSet)(hints:List Int):Prop where
 set:cW a=true
 type:a.type=6
 name:a.name = [46]
 few:1<=hints.length/\hints.length<=8
 each:∀ n∈hints,1<=n/\n<=1000000
structure CopyOk(h:Hist)(c:Copy):Prop where
 host:0<=c.host/\c.host<h.hosts.length
 times:0<=c.frm/\c.frm<c.til/\c.til<=h.stop
 zone:VZone c.zone
def jf(c d:Copy):Prop:=c.host=d.host/\c.zone.apex=d.zone.apex/\c.frm<d.til/\d.frm<c.til
structure VHist(h:Hist):Prop where
 stop:1<=h.stop/\h.stop<=10000000
 drift:0<=h.drift/\h.drift<=1000
 hosts:VHosts h.hosts
 root:VRoot h.anchor h.hints
 each:∀ c∈h.copies,CopyOk h c
 apart:h.copies.Pairwise λc d=>¬ jf c d
structure VWorld(w:WorldP):Prop where
 hosts:VHosts w.hosts
 root:VRoot w.anchor w.hints
 each:∀ p∈w.zones,(0<=p.host/\p.host<w.hosts.length)/\VZone p.zone
 apart:w.zones.Pairwise λp q=>¬ (p.host=q.host/\p.zone.apex=q.zone.apex)
def f9(l:List Span):List Span:=(l.mergeSort λa b=>decide (a.frm<=b.frm)).foldl ft []
theorem LY{l m:List Span}(h:l.Perm m)(t:Int):inS l t↔inS m t:=
 ⟨λ⟨s,hs,k⟩=>⟨s,h.mem_iff.1 hs,k⟩,λ⟨s,hs,k⟩=>⟨s,h.mem_iff.2 hs,k⟩⟩
theorem J0{l:List Span}(hf:∀ s∈l,s.frm<s.til)(hs:l.Pairwise λa b=>a.frm<=b.frm):ApartS (l.foldl ft [])/\∀ t,inS (l.foldl ft []) t↔inS l t:=by
 obtain⟨h1,h2⟩:=N3 l [] ApartS.nil hf hs (λp hp=>by cases hp);exact⟨h1,λt=>(h2 t).trans ⟨λh=>h.elim (λh=>absurd h (qa t)) id,.inr⟩⟩
theorem NM(l:List Span):(l.mergeSort λa b=>decide (a.frm<=b.frm)).Perm l:=List.mergeSort_perm _ _
theorem YZ(l:List Span):(l.mergeSort λa b=>decide (a.frm<=b.frm)).Pairwise λa b=>a.frm<=b.frm:=by
 have:=List.pairwise_mergeSort (le:=λa b:Span=>decide (a.frm<=b.frm)) (λx y z h1 h2=>by simp at *;omega) (λx y=>by simp;omega) l
 exact this.imp λh=>by simpa using h
theorem Cd{l:List Span}(hf:∀ s∈l,s.frm<s.til):ApartS (f9 l)/\∀ t,inS (f9 l) t↔inS l t:=by
 obtain⟨h1,h2⟩:=J0 (λs hs=>hf s ((NM l).mem_iff.1 hs)) (YZ l);exact⟨h1,λt=>(h2 t).trans (LY (NM l) t)⟩
theorem Gn{l m:List Span}(hf:∀ s∈l,s.frm<s.til)(hm:ApartS m)(ht:∀ t,inS m t↔inS l t):m=f9 l:=by
 obtain⟨h1,h2⟩:=Cd hf;exact Em _ _ hm h1 λt=>(ht t).trans (h2 t).symm
theorem WQ{l m:List Span}(hf:∀ s∈l,s.frm<s.til)(hp:m.Perm l)(hs:m.Pairwise λa b=>a.frm<=b.frm):m.foldl ft []=f9 l:=by
 obtain⟨h1,h2⟩:=J0 (λs hs=>hf s (hp.mem_iff.1 hs)) hs;exact Gn hf h1 λt=>(h2 t).trans (LY hp t)
theorem WP{l m:List Span}(hl:∀ s∈l,s.frm<s.til)(hm:∀ s∈m,s.frm<s.til)(h:∀ t,inS l t↔inS m t):f9 l=f9 m:=by
 obtain⟨h1,h2⟩:=Cd hl;exact Gn hm h1 λt=>(h2 t).trans (h t)
def jd(c:Copy):Span:=⟨c.frm,c.til⟩
def sS(l:List Copy)(zone:List UInt8):List Copy:=l.filter λc=>c.zone.apex == zone
def mG(c:Copy):List (Span×Signed):=c.zone.sets.map λs=>(jd c,s)
def cV(l:List Copy)(zone:List UInt8):List (Span×Signed):=(sS l zone).flatMap mG
def fq(ps:List (Span×Signed))(s:Signed):List Span:=(ps.filter λp=>decide (p.2=s)).map (·.1)
def uS(f:List Span->List Span)(zone:List UInt8)(ps:List (Span×Signed)):List Held:=(cE (ps.map (·.2))).map λs=>⟨zone,s,f (fq ps s),[]⟩
theorem CD(ps:List (Span×Signed))(p:Span×Signed)(s:Signed):fq (ps ++ [p]) s=if p.2=s then fq ps s ++ [p.1] else fq ps s:=by
 unfold fq;rw[List.filter_append];by_cases h:p.2=s
 ·simp[h]
 ·simp[h]
theorem Zi{ps:List (Span×Signed)}{s:Signed}(h:s∉ps.map (·.2)):fq ps s = []:=by
 unfold fq;rw[List.filter_eq_nil_iff.2 (λp hp=>?_)];rfl;simp only[Qa];rintro rfl;exact h (List.mem_map.2 ⟨p,hp,rfl⟩)
theorem TU(f:List Span->List Span)(zone:List UInt8)(ps:List (Span×Signed)):(uS f zone ps).length=(cE (ps.map (·.2))).length:=List.length_map _
def pub(l:List Copy)(zone:List UInt8):List Held:=uS f9 zone (cV l zone)
def apexes(l:List Copy):List (List UInt8):=rL (cE (l.map (·.zone.apex)))
theorem tI{l:List Copy}{zone:List UInt8}{p:Span×Signed} : p∈cV l zone↔∃ c∈l,c.zone.apex=zone/\p.2∈c.zone.sets/\p.1=jd c:=by
 unfold cV sS mG;simp only[List.mem_flatMap,List.mem_filter,List.mem_map,beq_iff_eq];constructor
 ·rintro⟨c,⟨h1,h2⟩,s,hs,rfl⟩;exact⟨c,h1,h2,hs,rfl⟩
 ·rintro⟨c,h1,h2,h3,h4⟩;exact⟨c,⟨h1,h2⟩,p.2,h3,by rw[<-h4]⟩
theorem Ca{ps:List (Span×Signed)}{s:Signed}{x:Span} : x∈fq ps s↔(x,s)∈ps:=by
 unfold fq;simp only[List.mem_map,List.mem_filter,Qa];constructor
 ·rintro⟨p,⟨h1,rfl⟩,rfl⟩;exact h1
 ·intro h;exact⟨(x,s),⟨h,rfl⟩,rfl⟩
def ix(l:List Copy):Prop:=∀ c∈l,c.frm<c.til
theorem VHist.full{h:Hist}(v:VHist h):ix h.copies:=λc hc=>(v.each c hc).times.2.1
theorem CE{l:List Copy}(hl:ix l){zone:List UInt8}{s:Signed} : ∀ x∈fq (cV l zone) s,x.frm<x.til:=λx hx=>by
 obtain⟨c,hc,_,_,h4⟩:=tI.1 (Ca.1 hx);have h4:x=jd c:=h4;rw[h4];exact hl c hc
theorem Ga{l:List Copy}{zone:List UInt8}{s:Signed}{t:Int} : inS (fq (cV l zone) s) t↔∃ c∈l,c.zone.apex=zone/\s∈c.zone.sets/\c.frm<=t/\t<c.til:=by
 constructor
 ·rintro⟨x,hx,h1,h2⟩;obtain⟨c,hc,h3,h4,h5⟩:=tI.1 (Ca.1 hx);have h5:x=jd c:=h5;subst h5;exact⟨c,hc,h3,h4,h1,h2⟩
 ·rintro⟨c,hc,h3,h4,h1,h2⟩;exact⟨jd c,Ca.2 (tI.2 ⟨c,hc,h3,h4,rfl⟩),h1,h2⟩
theorem Mt{l:List Copy}{zone:List UInt8}{s:Signed} : s∈cE ((cV l zone).map (·.2))↔∃ c∈l,c.zone.apex=zone/\s∈c.zone.sets:=by
 rw[tJ,List.mem_map];constructor
 ·rintro⟨p,hp,rfl⟩;obtain⟨c,h1,h2,h3,_⟩:=tI.1 hp;exact⟨c,h1,h2,h3⟩
 ·rintro⟨c,h1,h2,h3⟩;exact⟨(jd c,s),tI.2 ⟨c,h1,h2,h3,rfl⟩,rfl⟩
theorem nO{l:List Copy}(hl:ix l){zone:List UInt8}{x:Held}(hx:x∈pub l zone):x.zone=zone/\x.spans = []/\ApartS x.fresh/\(∃ c∈l,c.zone.apex=zone/\x.signed∈c.zone.sets)/\∀ t,inS x.fresh t↔∃ c∈l,c.zone.apex=zone/\x.signed∈c.zone.sets/\c.frm<=t/\t<c.til:=by
 unfold pub uS at hx;obtain⟨s,hs,rfl⟩:=List.mem_map.1 hx;obtain⟨h1,h2⟩:=Cd (CE hl (zone:=zone) (s:=s));exact⟨rfl,rfl,h1,Mt.1 hs,λt=>(h2 t).trans Ga⟩
theorem MU{l:List Copy}{zone:List UInt8}{s:Signed}(h:∃ c∈l,c.zone.apex=zone/\s∈c.zone.sets):∃ x∈pub l zone,x.signed=s:=
 ⟨_,List.mem_map.2 ⟨s,Mt.2 h,rfl⟩,rfl⟩
end Np
section
open Go.RowKit
theorem Y4(l:List UInt8):Np.aO (l ++ [46])=Np.aO l ++ [[]]:=Np.zA l []
theorem Y5:∀ (l:List UInt8) (c:UInt8) (pre:List (List UInt8)) (x:List UInt8),c≠46->Np.aO l=pre ++ [x]->Np.aO (l ++ [c])=pre ++ [x ++ [c]]:=by
 intro l
 induction l with
 | nil=>
  intro c pre x hc h;have h2:([[]]:List (List UInt8))=pre ++ [x]:=h
  cases pre with
  | nil=>simp at h2;subst h2;simp[Np.aO,hc]
  | cons a pre=>simp at h2
 | cons a r ih=>
  intro c pre x hc h;rw[List.cons_append];rw[Np.aO] at h |-;by_cases ha:a=46
  ·rw[Qb ha] at h |-
   cases pre with
   | nil=>simp at h;exact absurd h.2 (Np.oS r)
   | cons b pre=>
    simp only[List.cons_append,List.cons.injEq] at h;rw[ih c pre x hc h.2,<-h.1];rfl
  ·rw[Qc ha] at h |-;have hne:=Np.oS r
   cases hr:Np.aO r with
   | nil=>exact absurd hr hne
   | cons y ys=>
    rw[hr] at h;simp only at h
    cases pre with
    | nil=>
     simp only[List.nil_append,List.cons.injEq] at h;obtain⟨rfl,rfl⟩:=h;rw[ih c [] y hc (by rw[hr];rfl)];rfl
    | cons b pre=>
     simp only[List.cons_append,List.cons.injEq] at h;obtain⟨rfl,rfl⟩:=h;rw[ih c (y::pre) x hc (by rw[hr];rfl)];rfl
def RSt(_:World)(_:Nat)(e:List Value)(x:List UInt8):Prop:=e = [aB x]
theorem Cx:cY RSt:=λ_ _ _ _ _ h _=>h
theorem Nm:dw RSt:=λ_ _ _ _ _ h _=>h
def tY{α:Type}(R:World->Nat->List Value->α->Prop)(sz:Nat)(w:World)(xs:List α)(e:Ending)(w':World):Prop:=∃ v,e = .returned v/\SlR R sz w' w'.heap.size v xs/\Below w.heap.size w w'
theorem W9{W:World}{base:Nat}{e:TypeId}{g cap n:Nat}{xs:List Value}(h:W.ownsRow base e 1 (.slice (some ⟨g,0,none⟩) n cap) n xs)(j:Nat)(hj:j<n)(u:Value) :
 W.cell? ⟨g,j,none⟩=xs[j]?/\W.frozen? ⟨g,j,none⟩=false/\g<W.heap.size/\base<=g/\(W.setCell ⟨g,j,none⟩ u).ownsRow base e 1 (.slice (some ⟨g,0,none⟩) n cap) n (xs.set j u):=by
 obtain⟨h1,h2⟩:=h;rcases h2 with ⟨h2,_⟩ | ⟨g',cap',cur,h2,hb,hg,hn,hm,hs,ht⟩
 ·cases h2
 ·simp only[Value.slice.injEq,Option.some.injEq,Addr.mk.injEq,and_true,true_and] at h2;obtain⟨rfl,rfl⟩:=h2;have aa:=(eQ.1 hg).1;refine⟨?_,?_,aa,hb,by simpa using h1,.inr ⟨g,cap,cur.setIfInBounds j u,rfl,hb,?_,hn,hm,by simpa using hs,?_⟩⟩
  ·rw[<-ht];simp only[World.cell?,hg,Option.isSome_none,Bool.false_eq_true,if_false,List.getElem?_take];rw[Qb (by omega)];simp
  ·simp[World.frozen?,hg]
  ·simp only[World.setCell,Array.getElem?_modify,if_true,hg];simp
  ·rw[<-ht,Array.toList_setIfInBounds,List.take_set]
theorem Tryz.infoStr:(prog.info? 9).map (λi=>(i.zero,i.size,i.bytes))=some (some (.string ⟨#[]⟩),1,16):=by kernel_rfl
def QR(s:ByteArray)(w:World)(v i:Value)(wr:World):Prop:=
 ∃ (k:Nat) (pre:List (List UInt8)) (x:List UInt8),k<=s.size/\i = .int .i64 k/\Np.aO (s.data.toList.take k)=pre ++ [x]/\pre.length<=k/\wr.ownsRow w.heap.size 9 1 v (pre.length+1) (pre.map aB ++ [aB x])/\Below w.heap.size w wr
theorem Za(x:List UInt8)(s:ByteArray)(k:Nat)(hk:k<s.size):Value.string ((⟨x.toArray⟩:ByteArray)++s.extract k (k+1))=aB (x ++ [s[k]]):=by
 show Value.string _=Value.string _;congr 1;apply kL
 have:(s.extract k (k+1)).data.toList = [s[k]]:=by
  rw[Ez,GK s k hk,List.drop_append_of_le_length (by rw[List.length_take,aU];omega),List.drop_of_length_le (by rw[List.length_take,aU];omega),List.nil_append]
 rw[ByteArray.data_append,Array.toList_append,this]
theorem Nf(s:ByteArray)(hs:s.size<=1000000)(w:World):Calls prog 103 #[.string s] w (tY RSt 1 w (Np.aO s.data.toList)):=by
 obtain⟨i0,hi,eM,bj,aJ⟩:=info_parts Tryz.infoStr;go_enter func103,ntmps103;go_wp2;go_loopw [3,4] (λv i wr=>QR s w v i wr) (λ_ i _=>s.size - (intOf i).toNat)
 case atStart=>
  refine⟨0,[],[],jQ _,rfl,rfl,bQ _,⟨rfl,.inr ⟨w.heap.size,1,#[.string ⟨#[]⟩],rfl,bQ _,heap_alloc_new _ _,by simp,by simp[maxLen],rfl,rfl⟩⟩,(vQ _ _).alloc (bQ _) _⟩
 case round=>
  obtain⟨k,pre,x,hk,rfl,BU,rt,hown,hB⟩:=hrel;obtain⟨g,cap,rfl⟩:=ownsRow_succ hown;have an:=hB.size;have HB:=jq hB;have HO:=jq hown;have HS:=jq BU;clear hB hown BU;by_cases aa:k<s.size
  ·have hb:=vS s[k];have LF:=GK s k aa;have HT:=jq LF;clear LF;by_cases xL:(s[k].toNat:Int)=46
   ·have he:((s[k].toNat:Int) == 46)=true:=by simp[xL]
    have hc:s[k]=46:=by
     apply UInt8.toNat_inj.1
     have:s[k].toNat=46:=by omega
     rw[this];rfl
    have HC:=jq hc;clear hc xL;go_wp2_with (at_builtin;refine wpList_append_own_at _ rfl _ _ 116 rfl w.heap.size 9 i0 (.string ⟨#[]⟩) 1 16 underlying116 hi eM bj aJ rfl (by decide) _ _ _ rfl (HO.out.alloc _) ⟨wr.heap.size,0,none⟩ 1 1 [.string ⟨#[]⟩] rfl rfl (cell_one_new _ _ _) (by simp[Value.oneCell']) (by unfold maxLen;omega) (by omega) (by simp;omega) ?_;intro v1 w1 Lh ra _ Tm;have H1:=jq (And.intro Lh ra);clear Lh ra Tm);go_roundw
    case rel=>
     obtain⟨o1,g1⟩:=H1.out;have Ut:=(HO.out.lt g rfl).1;refine⟨k+1,pre ++ [x],[],by omega,by go_num,?_,by simp;omega,?_,?_⟩
     ·rw[HT.out,HC.out,Y4,HS.out]
     ·simpa using o1
     ·exact (HB.out.alloc (by omega) _).grown g1 (by simp;omega) (λj hj=>by have e:g=j:=Option.some.inj hj;omega)
    case measure=>simp[intOf] <;> omega
   ·have he:((s[k].toNat:Int) == 46)=false:=by simp[xL]
    have hc:s[k]≠46:=λe=>xL (by rw[e];rfl);have HC:=jq hc;clear hc xL;obtain⟨q1,q2,q3,q4,q5⟩:=W9 HO.out pre.length (by omega) (aB (x ++ [s[k]]));have hcell:wr.cell? ⟨g,pre.length,none⟩=some (aB x):=by rw[q1];simp
    have DT:=jq q5;have mw:=Za x s k aa;clear q1 q5;have mE:x.length<=k:=by
     have h1:=Np.GF (l:=s.data.toList.take k) (y:=x) (by rw[HS.out];simp);rw[List.length_take] at h1;omega
    have fN:¬ 9223372036854775807<x.length+(min (k+1) s.size - k):=by omega
    have ah:IntKind.i64.wrap (pre.length:Int)=pre.length:=IntWalk.i64_in _ (by omega);have ai:IntKind.i64.wrap ((k:Int)+1)=k+1:=IntWalk.i64_in _ (by omega);have Li:(0:Int)<=(pre.length:Int):=by omega
    have hp1:(pre.length:Int)<(pre.length:Int)+1:=by omega
    have bO:(0:Int)<=(k:Int):=by omega
    have bM:(k:Int)+1<=(s.size:Int):=by omega
    have iR:((k:Int)+1).toNat=k+1:=by omega
    have ld:(0:Int)<=(k:Int)+1:=by omega
    have iS:(k:Int)<=(k:Int)+1:=by omega
    go_wp2_with fail;refine Ow 17 (by kernel_rfl) (by kernel_rfl) ?_;simp only[List.take_succ_cons,List.take_zero,List.drop_succ_cons,List.drop_zero]
    iterate 17 still_step
    refine wpStill_nil ?_;go_wp2_with fail;go_roundw
    case rel=>
     refine⟨k+1,pre,x ++ [s[k]],by omega,by go_num,?_,by omega,?_,?_⟩
     ·rw[HT.out];exact Y5 _ _ _ _ HC.out HS.out
     ·have h5:(wr.setCell ⟨g,pre.length,none⟩ (aB (x ++ [s[k]]))).ownsRow w.heap.size 9 1 (.slice (some ⟨g,0,none⟩) (pre.length+1) cap) (pre.length+1) (pre.map aB ++ [aB (x ++ [s[k]])]):=by
       have:=DT.out
       simpa using this
      exact h5
     ·exact (HB.out.setCell (p:=⟨g,pre.length,none⟩) q4 _).drew
    case measure=>simp[intOf] <;> omega
  ·go_wp2_with fail;go_ret;refine⟨_,rfl,?_,HB.out⟩;have aH:Np.aO s.data.toList=pre ++ [x]:=by have:=HS.out;rwa [CC s k (by omega)] at this
   rw[aH];refine GC (sz:=1) (e:=9) (base:=w.heap.size) (λx=>[aB x]) (λ_ _=>rfl) ?_ (by simp;omega) (λ_ _=>rfl)
   have:=HO.out
   simpa [Mr] using this
theorem YY{α:Type}{R:World->Nat->List Value->α->Prop}{sz:Nat}(w:World)(B:Nat):SlR R sz w B (.slice none 0 0) []:=⟨none,0,rfl,by simp,by simp,λi x h=>by simp at h⟩
theorem zu(s:ByteArray)(hs:s.size<=1000000)(w:World):Calls prog 233 #[.string s] w (tY RSt 1 w (Np.dO s.data.toList)):=by
 by_cases h:s.data.toList = [46]
 ·have he:(s.toList == [46])=true:=by rw[dQ,h];rfl
  have hp:Np.dO s.data.toList = []:=by rw[Np.dO,Qb h]
  rw[hp];clear h hp;go_enter func233,ntmps233;go_wp2_with fail;go_ret;exact⟨_,rfl,YY _ _,vQ _ _⟩
 ·have he:(s.toList == [46])=false:=by rw[dQ];simpa using h
  have hp:Np.dO s.data.toList=Np.aO s.data.toList:=by rw[Np.dO,Qc h]
  rw[hp];clear h hp;go_enter func233,ntmps233;go_wp2_with fail;refine (Nf s hs _).mono ?_;rintro e w1 ⟨v,rfl,hv,hb⟩;have HV:=jq (And.intro hv hb);clear hv hb;go_wp2_with fail;go_ret;exact⟨_,rfl,HV.out⟩
theorem zB{w:World}{B:Nat}{v:Value}{xs:List (List UInt8)}(h:SlR RSt 1 w B v xs){k:Nat}{x:List UInt8}(hx:xs[k]?=some x):∃ b o c,v = .slice (some ⟨b,o,none⟩) xs.length c/\b<B/\xs.length<=c/\w.cell? ⟨b,o+k,none⟩=some (aB x):=by
 obtain⟨A,c,rfl,hc,_,he⟩:=h;obtain⟨b,o,e,rfl,hb,_,hce,rfl⟩:=he k x hx;exact⟨b,o,c,rfl,hb,hc,by have:=hce 0 _ rfl;simpa using this⟩
end
end Go.Proofs.YtfnopgdcaanaiaaGreatDoor
