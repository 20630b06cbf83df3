/- Parts of the proof. No condition. -/
import Derived.Laws.EntriesVeiled
import Derived.Shelf.Strings.OnBuilder
import Derived.Shelf.Strconv.Itoa3
import Derived.Shelf.Strings.LastIndex
import Derived.Shelf.Strings.Prefix
import Derived.Shelf.SlSortCmp.NoneTotal
import Derived.Test.YtfnopgdcaanaiaaGreatDoorProg
import Derived.Lib.AppendIntMem
import Derived.Test.YtfnopgdcaanaiaaGreatDoorT01
set_option linter.all false
set_option maxRecDepth 100000
set_option maxHeartbeats 8000000
namespace Go.Proofs.YtfnopgdcaanaiaaGreatDoor
open Go.Proofs.Tryz
namespace D
open Go.RowKit Go.Shelf
attribute [local go_sem] Oper.semAt_some
def nA(W:World)(lm lr:Nat)(rem:List (List UInt8)):Prop:=
 ∃ (more:Bool) (r:ByteArray),Boxed W lm 4 (.bool more)/\Boxed W lr 9 (.string r)/\r.size<=140737488355328/\rem=if more then (Np.aS r.data.toList).reverse else []
theorem nA.it{B:Nat}{S:Nat->Prop}{W W':World}{lm lr:Nat}{rem:List (List UInt8)}(h:nA W lm lr rem)(hs:ItStep B S W W')(h1:S lm)(h2:S lr):nA W' lm lr rem:=by
 obtain⟨more,r,b1,b2,h3,h4⟩:=h;exact⟨more,r,fd b1 hs h1,fd b2 hs h2,h3,h4⟩
def CW(W:World)(lm lr:Nat)(rem:List (List UInt8))(e:Ending)(W':World):Prop:=
 (rem = []/\e = .returned (.tuple #[.string ⟨#[]⟩,.bool false])/\W'=W)\/
 ∃ x rest,rem=x::rest/\e = .returned (.tuple #[aM x,.bool true])/\nA W' lm lr rest/\∃ b u,(b=lm\/b=lr)/\W'=W.setCell ⟨b,0,none⟩ u
theorem Vq(lm lr:Nat)(hne:lm≠lr)(rem:List (List UInt8))(w:World)(h:nA w lm lr rem) :
 Calls prog 297 #[.pointer (some ⟨lm,0,none⟩),.pointer (some ⟨lr,0,none⟩)] w (CW w lm lr rem):=by
 obtain⟨more,r,b1,b2,h3,h4⟩:=h;have HR:=jq h4;clear h4;have c1:=b1.cell;have c2:=b2.cell;have f1:=b1.frozen;have f2:=b2.frozen
 cases more with
 | false=>
  go_enter func297,ntmps297;go_wp2_with fail;refine bodyPost_ret (v:=.tuple #[.string ⟨#[]⟩,.bool false]) (by simp[results,results297,go_sem]) rfl ?_;exact .inl ⟨HR.out,rfl,rfl⟩
 | true=>
  go_enter func297,ntmps297;go_wp2_with fail;refine (ER _ h3 _ (by decide) (by decide) _).mono ?_;rintro e w' ⟨q,hq,rfl,rfl⟩;rcases hq with ⟨rfl,gG⟩ | ⟨a,b,fe,kg,rfl⟩
  ·have aN:Np.aS r.data.toList = [r.data.toList]:=Np.tG gG;have HS:=jq aN;clear aN gG;go_wp2_with fail;refine bodyPost_ret (v:=.tuple #[.string r,.bool true]) (by simp[results,results297,go_sem]) rfl ?_;refine .inr ⟨r.data.toList,[],by rw[HR.out,Qb trivial,HS.out];rfl,rfl,⟨false,r,b1.set _,bn b2 (by simpa using hne.symm) _,h3,rfl⟩,lm,_,.inl rfl,rfl⟩
  ·have jm:a.length+1+b.length=r.size:=by rw[<-bG,fe];simp;omega
   have aN:Np.aS r.data.toList=Np.aS a ++ [b]:=by rw[fe];exact (Np.Bx a b).trans (by rw[Np.tG kg])
   have lU:(r.extract (a.length+1) r.size).data.toList=b:=by rw[zi,fe];simp
   have mI:(r.extract 0 a.length).data.toList=a:=by rw[zj,fe];simp
   have Pj:Hid (r.extract (a.length+1) r.size=⟨b.toArray⟩):=jq (mY (by rw[lU]));have G1:=jq mI;have HS:=jq aN;clear aN lU mI fe kg;have j9:a.length<=140737488355328:=by omega
   have I2:a.length+1<=r.size:=by omega
   have ZE:(a.length:Int)+1<=(r.size:Int):=by omega
   clear jm;go_wp2_with fail;refine bodyPost_ret (v:=.tuple #[.string (r.extract (a.length+1) r.size),.bool true]) (by simp[results,results297,go_sem]) rfl ?_;refine .inr ⟨b,(Np.aS a).reverse,by rw[HR.out,Qb trivial,HS.out];simp,by rw[Pj.out],⟨true,r.extract 0 a.length,bn b1 (by simpa using hne) _,b2.set _,by rw[<-bG,G1.out];omega,by rw[G1.out];rfl⟩,lr,_,.inr rfl,rfl⟩
theorem Wz(t:ByteArray)(ht:t.size<=140737488355328)(w:World) :
 Calls prog 214 #[.string t] w λe w'=>e = .returned (.func (.func 297) #[] #[.pointer (some ⟨w.heap.size+1,0,none⟩),.pointer (some ⟨w.heap.size,0,none⟩)])/\
  nA w' (w.heap.size+1) w.heap.size (Np.back t.data.toList)/\Below w.heap.size w w'/\w'.heap.size=w.heap.size+2:=by
 have b0:=Boxed.new w 9 (.string t);have hb:∀ o o',Below w.heap.size w ((w.alloc o).alloc o'):=λo o'=>((vQ _ w).alloc (bQ _) _).alloc (by simp) _;by_cases he:t.data.toList = [46]
 ·have fg:(t.toList == [46])=true:=by rw[dQ,he];rfl
  have b1:=Boxed.new (w.alloc (.cells #[.string t] 9)) 4 (.bool false);rw[World.size_alloc] at b1;have HB:Hid (Np.back t.data.toList = []):=jq (by simp[Np.back,he]);clear he;go_enter func214,ntmps214;go_wp2_with fail;go_ret;exact⟨rfl,⟨false,t,b1,b0.alloc _,ht,by rw[HB.out];rfl⟩,hb _ _,by simp⟩
 ·have fg:(t.toList == [46])=false:=by rw[dQ];simpa using he
  have b1:=Boxed.new (w.alloc (.cells #[.string t] 9)) 4 (.bool true);rw[World.size_alloc] at b1;have HB:Hid (Np.back t.data.toList=(Np.aS t.data.toList).reverse):=jq (by simp[Np.back,he]);clear he;go_enter func214,ntmps214;go_wp2_with fail;go_ret;exact⟨rfl,⟨true,t,b1,b0.alloc _,ht,by rw[HB.out];rfl⟩,hb _ _,by simp⟩
theorem Qf:∀ a b:List UInt8,Lib.compareBytes a b=Np.bJ a b:=by
 intro a
 induction a with
 | nil=>
  intro b
  cases b with
  | nil=>rfl
  | cons y b=>simp[Lib.compareBytes,Np.bJ,Op.bytesLess]
 | cons x a ih=>
  intro b
  cases b with
  | nil=>simp[Lib.compareBytes,Np.bJ,Op.bytesLess]
  | cons y b=>
   rw[Lib.compareBytes,ih b];by_cases h1:x<y
   ·simp[Np.bJ,Op.bytesLess,h1]
   ·by_cases h2:y<x
    ·have h3:¬ x=y:=λe=>by subst e;exact h1 h2
     simp[Np.bJ,Op.bytesLess,h1,h2,h3]
    ·have h3:x=y:=by
      apply UInt8.toNat_inj.1;simp only[UInt8.lt_iff_toNat_lt] at h1 h2;omega
     subst h3;simp[Np.bJ,Op.bytesLess,h1]
theorem Xp(s t:ByteArray)(w:World) :
 Calls prog 216 #[.string s,.string t] w λe w'=>e = .returned (.int .i64 (Np.bJ s.data.toList t.data.toList))/\w=w':=
 (Tryz.strings_Compare s t w).mono λe w' ⟨he,hw⟩=>⟨by rw[he,Qf],hw.symm⟩
def BK(g lm lr l8:Nat)(S:Nat->Prop):Prop:=∀ k,S k↔k=g\/k=g+1\/k=lm\/k=lr\/k=l8
def BJ(w:World)(g lm lr l8:Nat)(fv:Value)(m n:List UInt8)(pre:List (List UInt8))(S:Nat->Prop)(W:World):Prop:=
 BK g lm lr l8 S/\Boxed W g 3 (.int .i64 0)/\Boxed W (g+1) 37 (.int .i64 0)/\Boxed W l8 273 fv/\
 (∃ rem,nA W lm lr rem/\∀ rest,Np.back m=pre++rest->Np.jZ (Np.back m) (Np.back n)=Np.jZ rest rem)/\Below w.heap.size w W
def BL(w:World)(g lm lr l8:Nat)(m n:List UInt8)(c:Code)(_:List (List UInt8))(S:Nat->Prop)(W:World):Prop:=
 c = .ret/\BK g lm lr l8 S/\Boxed W g 3 (.int .i64 (Np.jZ (Np.back m) (Np.back n)))/\Boxed W (g+1) 37 (.int .i64 0)/\Below w.heap.size w W
theorem Hw(w:World)(g lm lr l8:Nat)(fv:Value)(m n:List UInt8)(B:Nat)(hB:w.heap.size<=B):dE B (BJ w g lm lr l8 fv m n):=by
 rintro s S W W' ⟨hS,h1,h2,h3,⟨rem,h4,h5⟩,h6⟩ ak;exact⟨hS,fd h1 ak ((hS _).2 (.inl rfl)),fd h2 ak ((hS _).2 (.inr (.inl rfl))),fd h3 ak ((hS _).2 (.inr (.inr (.inr (.inr rfl))))),
  ⟨rem,h4.it ak ((hS _).2 (.inr (.inr (.inl rfl)))) ((hS _).2 (.inr (.inr (.inr (.inl rfl))))),h5⟩,oV h6 ak hB (bQ _)⟩
theorem Qi(w:World)(g lm lr l8:Nat)(m n:List UInt8)(B:Nat)(hB:w.heap.size<=B)(c:Code):dE B (BL w g lm lr l8 m n c):=by
 rintro s S W W' ⟨hc,hS,h1,h2,h6⟩ ak;exact⟨hc,hS,fd h1 ak ((hS _).2 (.inl rfl)),fd h2 ak ((hS _).2 (.inr (.inl rfl))),oV h6 ak hB (bQ _)⟩
theorem CW.rd{W W':World}{lm lr:Nat}{rem:List (List UInt8)}{e:Ending}(h:CW W lm lr rem e W'):(rem = []/\e = .returned (.tuple #[.string ⟨#[]⟩,.bool false])/\W'=W)\/
 ∃ x rest,rem=x::rest/\e = .returned (.tuple #[aM x,.bool true])/\nA W' lm lr rest/\(∀ S:Nat->Prop,S lm->S lr->RdStep S W W')/\(∀ b t v,b≠lm->b≠lr->Boxed W b t v->Boxed W' b t v)/\(∀ (n:Nat) (w:World),n<=lm->n<=lr->Below n w W->Below n w W'):=by
 rcases h with h | ⟨x,rest,h1,h2,h3,b,u,hb,rfl⟩
 ·exact .inl h
 ·refine .inr ⟨x,rest,h1,h2,h3,λS s1 s2=>?_,λb' t v n1 n2 hv=>bn hv (by rcases hb with rfl | rfl <;> assumption) _,λn w n1 n2 hB=>hB.setCell (p:=⟨b,0,none⟩) (by rcases hb with rfl | rfl <;> assumption) _⟩;exact RdStep.setCell (RdStep.refl S W) (.inl (by rcases hb with rfl | rfl <;> assumption)) _
theorem H0{w:World}{lm lr l8:Nat}{fv:Value}{m n:List UInt8}{pre:List (List UInt8)}{S:Nat->Prop}{W W3:World}{a:Act}{v0 v1:Value}{q:Int}(hS:BK w.heap.size lm lr l8 S)
 (hr:RdStep S W W3) (aa:∀ k,S k->k<W.heap.size) (c0:Boxed W3 w.heap.size 3 v0) (c1:Boxed W3 (w.heap.size+1) 37 v1) (hB:Below w.heap.size w W3) (hv:Np.jZ (Np.back m) (Np.back n)=q) :
 jY (BJ w w.heap.size lm lr l8 fv m n) (BL w w.heap.size lm lr l8 m n) pre S W .ret a ((W3.setCell ⟨w.heap.size,0,none⟩ (.int .i64 q)).setCell ⟨w.heap.size+1,0,none⟩ (.int .i64 0)):=
 ⟨S,(hr.setCell (.inl ((hS _).2 (.inl rfl))) _).setCell (.inl ((hS _).2 (.inr (.inl rfl)))) _,λ_ e=>.inl e,λk e=>by have:=aa k e;have:=hr.size;simp[World.setCell];omega,rfl,hS,
  by rw[hv];exact bn (c0.set _) (by simp) _,(bn c1 (by simp) _).set _,(hB.setCell (bQ _) _).setCell (by simp) _⟩
def cmpVal(a b:List UInt8):Value:=if Np.aG a&&Np.aG b then .tuple #[.int .i64 (Np.dt a b),.int .i64 0] else .tuple #[.int .i64 0,.int .i64 11]
theorem compare_any(a b:ByteArray)(ha:a.size<=140737488355328)(hb:b.size<=140737488355328)(w:World) :
 Calls prog 137 #[.string a,.string b] w λe w'=>e = .returned (cmpVal a.data.toList b.data.toList)/\Below w.heap.size w w':=by
 refine (callsIn_wide (n:=0)).1 ?_;refine callsIn_of_wp_marks func137 rfl trivial ?_ rfl;simp only[ntmps137,List.size_toArray,List.length_cons,List.length_nil,Nat.reduceAdd,Nat.reduceSub,Array.replicate_succ,Array.replicate_zero,List.push_toArray,List.append_toArray,List.nil_append,List.cons_append];have b0:=Boxed.new w 3 (.int .i64 0);have b1:=Boxed.new (w.alloc (.cells #[.int .i64 0] 3)) 37 (.int .i64 0);rw[World.size_alloc] at b1;replace b0:=b0.alloc (.cells #[.int .i64 0] 37);have dg:Below w.heap.size w ((w.alloc (.cells #[.int .i64 0] 3)).alloc (.cells #[.int .i64 0] 37)):=((vQ _ w).alloc (bQ _) _).alloc (by simp) _;gi_wp2_with fail;refine⟨trivial,rfl,?_⟩;refine (callsIn_wide.2 (valid_any a ha _)).mono ?_;rintro e w1 ⟨rfl,aq⟩;replace b0:=aX b0 aq (by simp;omega);replace b1:=aX b1 aq (by simp);replace dg:=dg.trans (aq.mono (by simp;omega));clear aq;have nF:∀ (W:World) (tmps:Array Value),Boxed W w.heap.size 3 (.int .i64 0)->Boxed W (w.heap.size+1) 37 (.int .i64 11)->Below w.heap.size w W->(Np.aG a.data.toList&&Np.aG b.data.toList)=false->
  tmps[4]?=some (.pointer (some ⟨w.heap.size,0,none⟩))->tmps[5]?=some (.pointer (some ⟨w.heap.size+1,0,none⟩))->
  bodyPostM Fence.wide 0 prog Tryz.f137 (λe w'=>e = .returned (cmpVal a.data.toList b.data.toList)/\Below w.heap.size w w') .ret { tmps:=tmps,defers:=[] } W:=λW tmps c0 c1 hB hv t4 t5=>by
  have d0:=c0.cell;have d1:=c1.cell;exact j6 (v:=.tuple #[.int .i64 0,.int .i64 11]) (by simp[results,results137,go_sem,d0,d1,t4,t5]) ⟨by rw[cmpVal,hv];rfl,hB⟩
 have rI:=jq nF;clear nF;have c0:=b0.cell;have c1:=b1.cell;have f0:=b0.frozen;have f1:=b1.frozen
 cases va:Np.aG a.data.toList with
 | false=>
  gi_wp2_with fail;refine⟨trivial,?_⟩;gi_wp2_with fail;refine rI.out _ _ (bn (b0.set _) (by simp) _) ((bn b1 (by simp) _).set _) ((dg.setCell (bQ _) _).setCell (by simp) _) (by rw[va];rfl) rfl rfl
 | true=>
  have VA:=jq va;clear va c0 c1 f0 f1;gi_wp2_with fail;refine⟨trivial,rfl,?_⟩;refine (callsIn_wide.2 (valid_any b hb _)).mono ?_;rintro e w2 ⟨rfl,ab⟩;have aN:w.heap.size+1<w1.heap.size:=b1.lt;replace b0:=aX b0 ab (by omega);replace b1:=aX b1 ab aN;replace dg:=dg.trans (ab.mono (by omega));have fj:=ab.size;clear ab;have c0:=b0.cell;have c1:=b1.cell;have f0:=b0.frozen;have f1:=b1.frozen
  cases vb:Np.aG b.data.toList with
  | false=>
   gi_wp2_with fail;refine rI.out _ _ (bn (b0.set _) (by simp) _) ((bn b1 (by simp) _).set _) ((dg.setCell (bQ _) _).setCell (by simp) _) (by rw[vb,Bool.and_false]) rfl rfl
  | true=>
   have VV:Hid ((Np.aG a.data.toList&&Np.aG b.data.toList)=true):=jq (by rw[VA.out,vb];rfl);clear vb VA rI;by_cases fe:a.data.toList=b.data.toList
   ·have RV:(a.toList == b.toList)=true:=by rw[dQ,dQ,fe];simp
    gi_wp2_with fail;have d0:=(bn (b0.set (.int .i64 0)) (p:=⟨w.heap.size+1,0,none⟩) (by simp) (.int .i64 0)).cell;have d1:=((bn b1 (p:=⟨w.heap.size,0,none⟩) (by simp) (.int .i64 0)).set (.int .i64 0)).cell;exact j6 (v:=.tuple #[.int .i64 0,.int .i64 0]) (by simp[results,results137,go_sem,d0,d1]) ⟨by rw[cmpVal,VV.out,fe];simp[Np.dt],(dg.setCell (bQ _) _).setCell (by simp) _⟩
   ·have RV:(a.toList == b.toList)=false:=by rw[dQ,dQ];simpa using fe
    have HV:Hid (cmpVal a.data.toList b.data.toList = .tuple #[.int .i64 (Np.jZ (Np.back a.data.toList) (Np.back b.data.toList)),.int .i64 0]):=jq (by rw[cmpVal,VV.out];simp[Np.dt,fe]);clear fe;gi_wp2_with fail;refine⟨trivial,rfl,?_⟩;refine (callsIn_wide.2 (Wz b hb _)).mono ?_;rintro e w3 ⟨rfl,sU,ae,bM⟩;have uu:=jq bM;clear bM;replace b0:=aX b0 ae (by omega);replace b1:=aX b1 ae (by omega);replace dg:=dg.trans (ae.mono (by omega));clear ae;have hl:=dg.size;have b8:=Boxed.new w3 273 (.func (.func 297) #[] #[.pointer (some ⟨w2.heap.size+1,0,none⟩),.pointer (some ⟨w2.heap.size,0,none⟩)]);replace b0:=b0.alloc (.cells #[.func (.func 297) #[] #[.pointer (some ⟨w2.heap.size+1,0,none⟩),.pointer (some ⟨w2.heap.size,0,none⟩)]] 273);replace b1:=b1.alloc (.cells #[.func (.func 297) #[] #[.pointer (some ⟨w2.heap.size+1,0,none⟩),.pointer (some ⟨w2.heap.size,0,none⟩)]] 273);replace sU:nA (w3.alloc (.cells #[.func (.func 297) #[] #[.pointer (some ⟨w2.heap.size+1,0,none⟩),.pointer (some ⟨w2.heap.size,0,none⟩)]] 273)) (w2.heap.size+1) w2.heap.size (Np.back b.data.toList):=sU.it (B:=w3.heap.size) (S:=λ_=>True) (oh _) trivial trivial;replace dg:=dg.alloc dg.size (.cells #[.func (.func 297) #[] #[.pointer (some ⟨w2.heap.size+1,0,none⟩),.pointer (some ⟨w2.heap.size,0,none⟩)]] 273);clear c0 c1 f0 f1;have n8:=Boxed.new w3 273 .nilFunc;have n8c:=n8.cell;have n8f:=n8.frozen;gi_wp2_with fail;clear n8 n8c n8f;have Zi:=enters_of func297 (by kernel_rfl) rfl;have Z5:w.heap.size+1<w2.heap.size:=by omega
    have bF:w3.heap.size=w2.heap.size+2:=uu.out;refine xL (n₀:=w.heap.size) (w0:=w) (first:=#[.string a]) (captured:=#[]) (gf:=215) rfl (enters_of func215 (by kernel_rfl) rfl) (mk:=λy=>#[.string a,y]) (λ_=>rfl)
     (yZ a ha _ w) dg dg.size (λ_=>rfl) (BJ w w.heap.size (w2.heap.size+1) w2.heap.size w3.heap.size (.func (.func 297) #[] #[.pointer (some ⟨w2.heap.size+1,0,none⟩),.pointer (some ⟨w2.heap.size,0,none⟩)]) a.data.toList b.data.toList)
     (BL w w.heap.size (w2.heap.size+1) w2.heap.size w3.heap.size a.data.toList b.data.toList)
     (Hw _ _ _ _ _ _ _ _ _ dg.size) (λc=>Qi _ _ _ _ _ _ _ _ dg.size c)
     (λk=>k=w.heap.size\/k=w.heap.size+1\/k=w2.heap.size+1\/k=w2.heap.size\/k=w3.heap.size) (by intro k h;omega) (by intro k h;simp;omega)
     ⟨λ_=>Iff.rfl,b0,b1,b8,⟨_,sU,λrest h=>by rw[h];rfl⟩,dg⟩ ?round ?done ?stop
    case round=>
     rintro l0 pre x S W aJ hI eh;clear bF;gi_wp2;refine⟨S,RdStep.refl _ _,λk e=>.inl e,eh,?_⟩;intro l W₂ ak;obtain⟨hS,c0,c1,c8,⟨rem,hp,vY⟩,hB⟩:=Hw w w.heap.size _ _ _ _ _ _ _ dg.size pre S W W₂ hI ak;have c8c:=c8.cell;have dI:∀ k,S k->k<W₂.heap.size:=λk e=>lQ (eh k e) ak.size;have hx:x∈Np.back a.data.toList:=aJ.subset (by simp);have pK:x.length<=140737488355328:=by have:=Np.yY hx;rw[bG] at this;omega
     obtain⟨rest,n9⟩:=aJ;have pj:=vY (x::rest) (by rw[<-n9];simp);have HR:=jq n9;have HG:=jq pj;clear n9 pj vY hx hI ak b0 b1 b8 sU;gi_wp2_with fail;refine⟨trivial,rfl,?_⟩;refine (CallsIn.inRound l (callsIn_wide.2 (Vq (w2.heap.size+1) w2.heap.size (by omega) rem _ hp))).mono ?_;intro e W3 hP;rcases hP.rd with ⟨jj,rfl,rfl⟩ | ⟨y,rem',jj,rfl,hp',an,dX,bC⟩
     ·have c0c:=c0.cell;have c1c:=c1.cell;have c0f:=c0.frozen;have c1f:=c1.frozen;have ql:=jq jj;clear jj hP;gi_wp2_with fail;exact H0 hS (RdStep.refl S _) dI c0 c1 hB (by rw[HG.out,ql.out];rfl)
     ·have ql:=jq jj;replace c0:=dX _ _ _ (by omega) (by omega) c0;replace c1:=dX _ _ _ (by omega) (by omega) c1;replace c8:=dX _ _ _ (by have:=uu.out;omega) (by have:=uu.out;omega) c8;have Er:=an S ((hS _).2 (.inr (.inr (.inl rfl)))) ((hS _).2 (.inr (.inr (.inr (.inl rfl)))));have hB':=bC w.heap.size w (by omega) (by omega) hB;have c0c:=c0.cell;have c1c:=c1.cell;have c0f:=c0.frozen;have c1f:=c1.frozen;clear jj hP an dX bC c8c hp hB;have pj:Np.jZ (Np.back a.data.toList) (Np.back b.data.toList)=if Np.bJ x y≠0 then Np.bJ x y else Np.jZ rest rem':=by rw[HG.out,ql.out];rfl
      have jR:=jq pj;clear pj HG;have jG:=Xp ⟨x.toArray⟩ ⟨y.toArray⟩ W3;by_cases hc:Np.bJ x y=0
      ·have dZ:(Np.bJ x y != 0)=false:=by simp[hc]
       have HC:=jq hc;clear hc;gi_wp2_with (refine⟨trivial,rfl,?_⟩;gi_at_call 216;refine (CallsIn.inRound l (callsIn_wide.2 jG)).mono ?_;rintro e w' ⟨rfl,rfl⟩);refine⟨S,Er,λ_ e=>.inl e,λk e=>by have:=dI k e;have:=Er.size;omega,hS,c0,c1,c8,⟨rem',hp',λr hr=>?_⟩,hB'⟩
       have:r=rest:=List.append_cancel_left (hr.symm.trans HR.out.symm)
       rw[jR.out,Qc (λh=>h HC.out),this]
      ·have dZ:(Np.bJ x y != 0)=true:=by simpa using hc
       have HC:=jq hc;clear hc;gi_wp2_with (refine⟨trivial,rfl,?_⟩;gi_at_call 216;refine (CallsIn.inRound l (callsIn_wide.2 jG)).mono ?_;rintro e w' ⟨rfl,rfl⟩);exact H0 hS Er dI c0 c1 hB' (by rw[jR.out,Qb HC.out])
    case done=>
     rintro D S W hD dH aF ⟨hS,c0,c1,c8,⟨rem,hp,vY⟩,hB⟩ hK;clear bF b0 b1 b8 sU;have c0c:=c0.cell;have c1c:=c1.cell;have c0f:=c0.frozen;have c1f:=c1.frozen;have nJ:Np.jZ (Np.back a.data.toList) (Np.back b.data.toList) = -1:=by rw[vY [] (by simp)];rfl
     have HE:=jq nJ;have nE:w.heap.size≠D:=λe=>dH ((hS _).2 (.inl e.symm));have mw:w.heap.size+1≠D:=λe=>dH ((hS _).2 (.inr (.inl e.symm)));have DA:w.heap.size<=D:=by have:=dg.size;omega
     clear nJ vY hp c8;gi_wp2;have hK':((W.setCell ⟨w.heap.size,0,none⟩ (.int .i64 (-1))).setCell ⟨w.heap.size+1,0,none⟩ (.int .i64 0)).heap[D]?=some (.deferred (some [])):=
      (wQ _ _ _ _ (by simpa using mw.symm)).trans ((wQ _ _ _ _ (by simpa using nE.symm)).trans hK)
     have d0:=(lC (bn (c0.set (.int .i64 (-1))) (p:=⟨w.heap.size+1,0,none⟩) (by simp) (.int .i64 0)) nE (.deferred none)).cell;have d1:=(lC ((bn c1 (p:=⟨w.heap.size,0,none⟩) (by simp) (.int .i64 (-1))).set (.int .i64 0)) mw (.deferred none)).cell;exact kH hK' (v:=.tuple #[.int .i64 (-1),.int .i64 0]) (by simp[results,results137,go_sem,d0,d1]) ⟨by rw[HV.out,HE.out],kE ((hB.setCell (bQ _) _).setCell (by simp) _) DA _⟩
    case stop=>
     rintro D c pre S W hD dH aF fM ⟨rfl,hS,c0,c1,hB⟩ hK;clear bF b0 b1 b8 sU;have nE:w.heap.size≠D:=λe=>dH ((hS _).2 (.inl e.symm));have mw:w.heap.size+1≠D:=λe=>dH ((hS _).2 (.inr (.inl e.symm)));have DA:w.heap.size<=D:=by have:=dg.size;omega
     gi_wp2;have d0:=(lC c0 nE (.deferred none)).cell;have d1:=(lC c1 mw (.deferred none)).cell;exact kH hK (v:=.tuple #[.int .i64 (Np.jZ (Np.back a.data.toList) (Np.back b.data.toList)),.int .i64 0]) (by simp[results,results137,go_sem,d0,d1]) ⟨by rw[HV.out],kE hB DA _⟩
end D
section
open Go.RowKit
def cmpVal(a b:List UInt8):Value:=if Np.aG a&&Np.aG b then .tuple #[.int .i64 (Np.dt a b),.int .i64 0] else .tuple #[.int .i64 0,.int .i64 11]
theorem compare_any(a b:ByteArray)(ha:a.size<=140737488355328)(hb:b.size<=140737488355328)(w:World) :
 Calls prog 137 #[.string a,.string b] w (agQ w.heap.size w (cmpVal a.data.toList b.data.toList)):=
 (D.compare_any a b ha hb w).mono λ_ _ h=>⟨h.1,h.2.low⟩
end
end Go.Proofs.YtfnopgdcaanaiaaGreatDoor
namespace Go.Proofs
open YtfnopgdcaanaiaaGreatDoor
open Go.Shelf
def Tryz.laysSort6_ren:Go.Shelf.Ren:=⟨fun | 6=>135 | 15=>186 | 14=>213 | 28=>259 | 29=>260 | 20=>289 | 21=>290 | 22=>291 | 23=>292 | 24=>293 | 25=>294 | 26=>295 | 27=>296 | 46=>342 | 47=>322 | 48=>323 | 49=>343 | 50=>344 | 57=>362 | n=>n,fun | 22=>116 | 24=>9 | 25=>212 | 3=>3 | 39=>249 | 0=>0 | 53=>92 | 55=>48 | 4=>4 | 46=>305 | 45=>304 | 50=>214 | 5=>5 | 9=>9 | 66=>351 | 70=>355 | 76=>376 | 77=>377 | n=>n,fun | n=>n⟩
theorem Tryz.laysSort6:Go.Proofs.SlLaysF.n6 Tryz.prog Tryz.laysSort6_ren:={
 mixed:=by kernel_rfl
 f6:=⟨Tryz.f135.name,by decide,Tryz.func135.trans (adZ)⟩
 f14:=⟨Tryz.f213.name,by decide,Tryz.func213.trans (adZ)⟩
 f15:=Tryz.func186.trans (adZ)
 f20:=⟨Tryz.f289.name,by decide,Tryz.func289.trans (adZ)⟩
 f21:=⟨Tryz.f290.name,by decide,Tryz.func290.trans (adZ)⟩
 f22:=⟨Tryz.f291.name,by decide,Tryz.func291.trans (adZ)⟩
 f23:=⟨Tryz.f292.name,by decide,Tryz.func292.trans (adZ)⟩
 f24:=⟨Tryz.f293.name,by decide,Tryz.func293.trans (adZ)⟩
 f25:=⟨Tryz.f294.name,by decide,Tryz.func294.trans (adZ)⟩
 f26:=⟨Tryz.f295.name,by decide,Tryz.func295.trans (adZ)⟩
 f27:=⟨Tryz.f296.name,by decide,Tryz.func296.trans (adZ)⟩
 f28:=Tryz.func259.trans (adZ)
 f29:=Tryz.func260.trans (adZ)
 f46:=⟨Tryz.f342.name,by decide,Tryz.func342.trans (adZ)⟩
 f47:=Tryz.func322.trans (adZ)
 f48:=Tryz.func323.trans (adZ)
 f49:=⟨Tryz.f343.name,by decide,Tryz.func343.trans (adZ)⟩
 f50:=⟨Tryz.f344.name,by decide,Tryz.func344.trans (adZ)⟩
 f57:=⟨Tryz.f362.name,by decide,Tryz.func362.trans (adZ)⟩
 t0:=Tryz.underlying0
 a0:=Tryz.isAgg0
 z0:=Tryz.sizeOf0
 v0:=Tryz.zeroValue0
 t3:=Tryz.underlying3
 a3:=Tryz.isAgg3
 z3:=Tryz.sizeOf3
 v3:=Tryz.zeroValue3
 t4:=Tryz.underlying4
 a4:=Tryz.isAgg4
 z4:=Tryz.sizeOf4
 v4:=Tryz.zeroValue4
 t5:=Tryz.underlying5
 a5:=Tryz.isAgg5
 z5:=Tryz.sizeOf5
 v5:=Tryz.zeroValue5
 t9:=Tryz.underlying9
 a9:=Tryz.isAgg9
 z9:=Tryz.sizeOf9
 v9:=Tryz.zeroValue9
 t22:=Tryz.underlying116
 a22:=Tryz.isAgg116
 z22:=Tryz.sizeOf116
 v22:=Tryz.zeroValue116
 a24:=Tryz.isAgg9
 z24:=Tryz.sizeOf9
 t25:=Tryz.underlying212
 a25:=Tryz.isAgg212
 z25:=Tryz.sizeOf212
 v25:=Tryz.zeroValue212
 t39:=Tryz.underlying249
 a39:=Tryz.isAgg249
 z39:=Tryz.sizeOf249
 v39:=Tryz.zeroValue249
 t45:=Tryz.underlying304
 a45:=Tryz.isAgg304
 z45:=Tryz.sizeOf304
 v45:=Tryz.zeroValue304
 t46:=Tryz.underlying305
 a46:=Tryz.isAgg305
 z46:=Tryz.sizeOf305
 v46:=Tryz.zeroValue305
 t50:=Tryz.underlying214
 a50:=Tryz.isAgg214
 z50:=Tryz.sizeOf214
 v50:=Tryz.zeroValue214
 t53:=Tryz.underlying92
 a53:=Tryz.isAgg92
 z53:=Tryz.sizeOf92
 v53:=Tryz.zeroValue92
 t55:=Tryz.underlying48
 a55:=Tryz.isAgg48
 z55:=Tryz.sizeOf48
 v55:=Tryz.zeroValue48
 t66:=Tryz.underlying351
 a66:=Tryz.isAgg351
 z66:=Tryz.sizeOf351
 v66:=Tryz.zeroValue351
 t70:=Tryz.underlying355
 a70:=Tryz.isAgg355
 z70:=Tryz.sizeOf355
 v70:=Tryz.zeroValue355
 t76:=Tryz.underlying376
 a76:=Tryz.isAgg376
 z76:=Tryz.sizeOf376
 v76:=Tryz.zeroValue376
 t77:=Tryz.underlying377
 a77:=Tryz.isAgg377
 z77:=Tryz.sizeOf377
 v77:=Tryz.zeroValue377 }
def Tryz.laysSort06_ren:Go.Shelf.Ren:=⟨fun | 6=>135 | 15=>186 | 14=>213 | 28=>259 | 29=>260 | 20=>289 | 21=>290 | 22=>291 | 23=>292 | 24=>293 | 25=>294 | 26=>295 | 27=>296 | 46=>342 | 47=>322 | 48=>323 | 49=>343 | 50=>344 | 57=>362 | n=>n,fun | 22=>116 | 24=>9 | 25=>212 | 3=>3 | 39=>249 | 0=>0 | 53=>92 | 55=>48 | 4=>4 | 46=>305 | 45=>304 | 50=>214 | 5=>5 | 9=>9 | 66=>351 | 70=>355 | 76=>376 | 77=>377 | n=>n,fun | n=>n⟩
theorem Tryz.laysSort06:Go.Proofs.SlLaysF0.n6 Tryz.prog Tryz.laysSort06_ren:={
 mixed:=by kernel_rfl
 f6:=⟨Tryz.f135.name,by decide,Tryz.func135.trans (adZ)⟩
 f14:=⟨Tryz.f213.name,by decide,Tryz.func213.trans (adZ)⟩
 f15:=Tryz.func186.trans (adZ)
 f20:=⟨Tryz.f289.name,by decide,Tryz.func289.trans (adZ)⟩
 f21:=⟨Tryz.f290.name,by decide,Tryz.func290.trans (adZ)⟩
 f22:=⟨Tryz.f291.name,by decide,Tryz.func291.trans (adZ)⟩
 f23:=⟨Tryz.f292.name,by decide,Tryz.func292.trans (adZ)⟩
 f24:=⟨Tryz.f293.name,by decide,Tryz.func293.trans (adZ)⟩
 f25:=⟨Tryz.f294.name,by decide,Tryz.func294.trans (adZ)⟩
 f26:=⟨Tryz.f295.name,by decide,Tryz.func295.trans (adZ)⟩
 f27:=⟨Tryz.f296.name,by decide,Tryz.func296.trans (adZ)⟩
 f28:=Tryz.func259.trans (adZ)
 f29:=Tryz.func260.trans (adZ)
 f46:=⟨Tryz.f342.name,by decide,Tryz.func342.trans (adZ)⟩
 f47:=Tryz.func322.trans (adZ)
 f48:=Tryz.func323.trans (adZ)
 f49:=⟨Tryz.f343.name,by decide,Tryz.func343.trans (adZ)⟩
 f50:=⟨Tryz.f344.name,by decide,Tryz.func344.trans (adZ)⟩
 f57:=⟨Tryz.f362.name,by decide,Tryz.func362.trans (adZ)⟩
 t0:=Tryz.underlying0
 a0:=Tryz.isAgg0
 z0:=Tryz.sizeOf0
 v0:=Tryz.zeroValue0
 t3:=Tryz.underlying3
 a3:=Tryz.isAgg3
 z3:=Tryz.sizeOf3
 v3:=Tryz.zeroValue3
 t4:=Tryz.underlying4
 a4:=Tryz.isAgg4
 z4:=Tryz.sizeOf4
 v4:=Tryz.zeroValue4
 t5:=Tryz.underlying5
 a5:=Tryz.isAgg5
 z5:=Tryz.sizeOf5
 v5:=Tryz.zeroValue5
 t9:=Tryz.underlying9
 a9:=Tryz.isAgg9
 z9:=Tryz.sizeOf9
 v9:=Tryz.zeroValue9
 t22:=Tryz.underlying116
 a22:=Tryz.isAgg116
 z22:=Tryz.sizeOf116
 v22:=Tryz.zeroValue116
 t25:=Tryz.underlying212
 a25:=Tryz.isAgg212
 z25:=Tryz.sizeOf212
 v25:=Tryz.zeroValue212
 t39:=Tryz.underlying249
 a39:=Tryz.isAgg249
 z39:=Tryz.sizeOf249
 v39:=Tryz.zeroValue249
 t45:=Tryz.underlying304
 a45:=Tryz.isAgg304
 z45:=Tryz.sizeOf304
 v45:=Tryz.zeroValue304
 t46:=Tryz.underlying305
 a46:=Tryz.isAgg305
 z46:=Tryz.sizeOf305
 v46:=Tryz.zeroValue305
 t50:=Tryz.underlying214
 a50:=Tryz.isAgg214
 z50:=Tryz.sizeOf214
 v50:=Tryz.zeroValue214
 t53:=Tryz.underlying92
 a53:=Tryz.isAgg92
 z53:=Tryz.sizeOf92
 v53:=Tryz.zeroValue92
 t55:=Tryz.underlying48
 a55:=Tryz.isAgg48
 z55:=Tryz.sizeOf48
 v55:=Tryz.zeroValue48
 t66:=Tryz.underlying351
 a66:=Tryz.isAgg351
 z66:=Tryz.sizeOf351
 v66:=Tryz.zeroValue351
 t70:=Tryz.underlying355
 a70:=Tryz.isAgg355
 z70:=Tryz.sizeOf355
 v70:=Tryz.zeroValue355
 t76:=Tryz.underlying376
 a76:=Tryz.isAgg376
 z76:=Tryz.sizeOf376
 v76:=Tryz.zeroValue376
 t77:=Tryz.underlying377
 a77:=Tryz.isAgg377
 z77:=Tryz.sizeOf377
 v77:=Tryz.zeroValue377 }
open Go.RowKit Go.Lib Go.Sort in
theorem Tryz.slices_SortFunc_none{α:Type}[Inhabited α](p:Option Addr)(cap:Nat)(fv:Value)(w:World) :
 Calls Tryz.prog 135 #[.slice p 0 cap,fv] w λe w'=>e = .returned (.tuple #[])/\w'=w:=AnyF.slices_SortFunc_none Tryz.laysSort06 p cap fv w
open Go.RowKit Go.Lib Go.Sort in
theorem Tryz.slices_SortFunc_total{α:Type}[Inhabited α](enc:α->Value)(h1:OneCell enc)(cf:α->α->Int)(hO:SWO (ltOf cf))(g:Nat)(cb:Array Value)(blk off cap:Nat)(d:Array α)(w:World)(eg:∀ args w,(callFunc g args).run Tryz.prog w = .ok (.enter g args) w)(vq:CmpLays1 Tryz.prog g cb enc cf blk off d.size w)(hH:Holds enc w blk off d)(R5:blk<w.heap.size)(ag:d.size<4611686018427387904)(hT:∀ x y,(ltOf cf) x y=false->(ltOf cf) y x=false->x=y) :
 Calls Tryz.prog 135 #[.slice (some ⟨blk,off,none⟩) d.size cap,.func (.func g) #[] cb] w λe w'=>
  e = .returned (.tuple #[])/\∃ n os,w'=sortWorld enc w blk off n (d.toList.mergeSort λx y=>!(ltOf cf) y x).toArray os:=Any.slices_SortFunc_total Tryz.laysSort6 enc h1 cf hO g cb blk off cap d w eg vq hH R5 ag hT
end Go.Proofs
namespace Go.Proofs
open YtfnopgdcaanaiaaGreatDoor
open Go.Shelf
def Tryz.laysM171_ren:Go.Shelf.Ren:=⟨fun | 171=>132 | 243=>211 | 246=>284 | 283=>285 | 284=>286 | 285=>287 | 286=>288 | 129=>260 | 317=>338 | 318=>339 | 319=>340 | 320=>341 | 337=>360 | 338=>361 | n=>n,fun | 3=>3 | 9=>9 | 2=>2 | 4=>4 | 171=>328 | 0=>0 | 53=>48 | 37=>196 | 5=>5 | 173=>330 | 212=>368 | 51=>92 | 20=>20 | 213=>369 | 46=>249 | 232=>384 | 233=>385 | n=>n,fun | 17=>1 | 18=>3 | 19=>4 | n=>n⟩
theorem Tryz.laysM171:Go.Proofs.LaysM.n171 Tryz.prog Tryz.laysM171_ren:={
 mixed:=by kernel_rfl
 f129:=Tryz.func260.trans (adZ)
 f171:=Tryz.func132.trans (adZ)
 f243:=Tryz.func211.trans (adZ)
 f246:=Tryz.func284.trans (adZ)
 f283:=Tryz.func285.trans (adZ)
 f284:=Tryz.func286.trans (adZ)
 f285:=Tryz.func287.trans (adZ)
 f286:=Tryz.func288.trans (adZ)
 f317:=Tryz.func338.trans (adZ)
 f318:=Tryz.func339.trans (adZ)
 f319:=Tryz.func340.trans (adZ)
 f320:=Tryz.func341.trans (adZ)
 f337:=Tryz.func360.trans (adZ)
 f338:=Tryz.func361.trans (adZ)
 t0:=Tryz.underlying0
 a0:=Tryz.isAgg0
 z0:=Tryz.sizeOf0
 v0:=Tryz.zeroValue0
 t2:=Tryz.underlying2
 a2:=Tryz.isAgg2
 z2:=Tryz.sizeOf2
 v2:=Tryz.zeroValue2
 t3:=Tryz.underlying3
 a3:=Tryz.isAgg3
 z3:=Tryz.sizeOf3
 v3:=Tryz.zeroValue3
 t4:=Tryz.underlying4
 a4:=Tryz.isAgg4
 z4:=Tryz.sizeOf4
 v4:=Tryz.zeroValue4
 t5:=Tryz.underlying5
 a5:=Tryz.isAgg5
 z5:=Tryz.sizeOf5
 v5:=Tryz.zeroValue5
 t9:=Tryz.underlying9
 a9:=Tryz.isAgg9
 z9:=Tryz.sizeOf9
 v9:=Tryz.zeroValue9
 t20:=Tryz.underlying20
 a20:=Tryz.isAgg20
 z20:=Tryz.sizeOf20
 v20:=Tryz.zeroValue20
 t37:=Tryz.underlying196
 a37:=Tryz.isAgg196
 z37:=Tryz.sizeOf196
 v37:=Tryz.zeroValue196
 t46:=Tryz.underlying249
 a46:=Tryz.isAgg249
 z46:=Tryz.sizeOf249
 v46:=Tryz.zeroValue249
 t51:=Tryz.underlying92
 a51:=Tryz.isAgg92
 z51:=Tryz.sizeOf92
 v51:=Tryz.zeroValue92
 t53:=Tryz.underlying48
 a53:=Tryz.isAgg48
 z53:=Tryz.sizeOf48
 v53:=Tryz.zeroValue48
 t171:=Tryz.underlying328
 a171:=Tryz.isAgg328
 z171:=Tryz.sizeOf328
 v171:=Tryz.zeroValue328
 t173:=Tryz.underlying330
 a173:=Tryz.isAgg330
 z173:=Tryz.sizeOf330
 v173:=Tryz.zeroValue330
 t212:=Tryz.underlying368
 a212:=Tryz.isAgg368
 z212:=Tryz.sizeOf368
 v212:=Tryz.zeroValue368
 t213:=Tryz.underlying369
 a213:=Tryz.isAgg369
 z213:=Tryz.sizeOf369
 t232:=Tryz.underlying384
 a232:=Tryz.isAgg384
 z232:=Tryz.sizeOf384
 v232:=Tryz.zeroValue384
 t233:=Tryz.underlying385
 a233:=Tryz.isAgg385
 z233:=Tryz.sizeOf385
 v233:=Tryz.zeroValue385
 g17:=by kernel_rfl
 g18:=by kernel_rfl
 g19:=by kernel_rfl
 i0:=by kernel_rfl
 i2:=by kernel_rfl
 i3:=by kernel_rfl
 i4:=by kernel_rfl
 i5:=by kernel_rfl
 i9:=by kernel_rfl
 i20:=by kernel_rfl
 i37:=by kernel_rfl
 i46:=by kernel_rfl
 i51:=by kernel_rfl
 i53:=by kernel_rfl
 i171:=by kernel_rfl
 i173:=by kernel_rfl
 i212:=by kernel_rfl
 i232:=by kernel_rfl
 i233:=by kernel_rfl
 m17:=by kernel_rfl
 m18:=by kernel_rfl
 m19:=by kernel_rfl }
open Go.RowKit Go.Sort Go.Lib in
theorem Tryz.strconv_Itoa(n:Int)(h0 : -9223372036854775808<=n)(h1:n<=9223372036854775807)(w:World)(wI:Lib.TabIs Tryz.prog w "internal/strconv.uint64pow10" .u64 Lib.pow10Tab) :
 Calls Tryz.prog 132 #[.int .i64 n] w λe w'=>e = .returned (.string ⟨(Lib.itoa n).toArray⟩)/\∃ k os,w'=grow (w.drewN k) os:=Any.strconv_Itoa Tryz.laysM171 n h0 h1 w wI
end Go.Proofs
namespace Go.Proofs.YtfnopgdcaanaiaaGreatDoor
open Go.Proofs.Tryz
section
open Go.RowKit Go.Sort Go.Lib
theorem Q2(u:Nat)(wJ:u<18446744073709551616)(w:World)(wI:Lib.TabIs prog w "internal/strconv.uint64pow10" .u64 Lib.pow10Tab) :
 Calls prog 212 #[.int .u64 u,.int .i64 10] w λe w'=>e = .returned (.string ⟨(Lib.decDigits u).toArray⟩)/\∃ k os,w'=grow (w.drewN k) os:=by
 have Ti:∀ w,1<=u->Lib.TabIs prog w "internal/strconv.uint64pow10" .u64 Lib.pow10Tab->Calls prog 286 #[.int .u64 u] w λe w'=>e = .returned (.int .i64 (Lib.nDigits u))/\w'=w:=λw h1 h=>Any.internal_strconv_numDigits { Tryz.laysM171 with } u h1 wJ w h;by_cases hs:u<100
 ·have Tw:∀ w,Calls prog 285 #[.int .i64 u] w λe w'=>e = .returned (.string ⟨(Lib.decDigits u).toArray⟩)/\w'=w:=λw=>Any.internal_strconv_small { Tryz.laysM171 with } u hs w;go_enter func212,ntmps212;go_wp2_with fail;refine (Tw _).mono ?_;rintro e w' ⟨rfl,rfl⟩;go_wp2_with fail;go_ret;exact⟨rfl,0,#[],by simp[World.drewN_zero]⟩
 ·have pI:1<=u:=by omega
  have abQ:Lib.nDigits u<=20:=by have:=Lib.numDigits_eq u pI wJ;split at this <;> omega
  have ae:Lib.nDigits u<=24:=by omega
  have j9:prog.arrayLen 328=24:=by simp[Program.arrayLen,underlying328]
  have d9:∀ W,(Instr.sliceAt 328 (.pointer (some ⟨w.heap.size,0,none⟩)) none (some (.int .i64 (Lib.nDigits u:Int))) none).run prog W = .ok (.slice (some ⟨w.heap.size,0,none⟩) (Lib.nDigits u) 24) W:=λW=>by
   rw[run_sliceAt_array_h W 328 ⟨w.heap.size,0,none⟩ (by simp[Program.arrayLen,Program.elem,underlying328]) .i64 (Lib.nDigits u:Int) (by omega) (by rw[j9];omega)];go_simp
  have DB:=Lib.holds_zero0 w 328 (Lib.nDigits u) (by omega);have Jr:Calls prog 287 #[.slice (some ⟨w.heap.size,0,none⟩) (Array.replicate (Lib.nDigits u) (0:UInt8)).size 24,.int .u64 u] (w.alloc (.cells Lib.zeros24 328)) λe w'=>e = .returned (.tuple #[])/\∃ (n v':Nat) (dk:Array UInt8),w'=(putRow (λ(b:UInt8)=>Value.int .u8 (b.toNat:Int)) (w.alloc (.cells Lib.zeros24 328)) w.heap.size 0 dk).drewN n/\FmtInv (Array.replicate (Lib.nDigits u) (0:UInt8)).size u 0 v' dk:=Any.internal_strconv_formatBase10 { Tryz.laysM171 with } w.heap.size 0 24 u (Array.replicate (Lib.nDigits u) 0) (w.alloc (.cells Lib.zeros24 328)) DB (by rw[Array.size_replicate];exact Lib.lt_pow_nDigits u) wJ (by rw[Array.size_replicate];omega);rw[Array.size_replicate] at Jr;have N5:=jq DB;clear DB j9;go_enter func212,ntmps212;go_wp2_with fail;refine (Ti _ pI (Lib.tabIs_alloc wI _)).mono ?_;rintro e w' ⟨rfl,rfl⟩;go_wp2_with fail;refine Jr.mono ?_;rintro e w' ⟨rfl,k,v',dk,rfl,hF⟩;have hcv:(convert 196 9 (.slice (some ⟨w.heap.size,0,none⟩) (Lib.nDigits u) 24)).run prog ((putRow (λ(b:UInt8)=>Value.int .u8 (b.toNat:Int)) (w.alloc (.cells Lib.zeros24 328)) w.heap.size 0 dk).drewN k) = .ok (.string ⟨(Lib.decDigits u).toArray⟩) ((putRow (λ(b:UInt8)=>Value.int .u8 (b.toNat:Int)) (w.alloc (.cells Lib.zeros24 328)) w.heap.size 0 dk).drewN k):=by
   have h:=run_convert_bytes_back (P:=prog) ((putRow (λ(b:UInt8)=>Value.int .u8 (b.toNat:Int)) (w.alloc (.cells Lib.zeros24 328)) w.heap.size 0 dk).drewN k) 196 9 5 ⟨w.heap.size,0,none⟩ 24 (Lib.decDigits u) underlying196 underlying5 underlying9 (λj hj=>by
    rw[Lib.row_is_numeral hF j hj,Lib.add_plain,World.cell?_drewN];exact cell?_putRow (λ(b:UInt8)=>Value.int .u8 (b.toNat:Int)) _ w.heap.size 0 _ dk N5.out (by rw[hF.size,Array.size_replicate]) j (by rw[hF.size];rw[Lib.decDigits_length] at hj;exact hj))
   rw[Lib.decDigits_length] at h;exact h
  go_wp2;go_ret;obtain⟨os,eo⟩:=Lib.fin_at w (.cells Lib.zeros24 328) dk k 0;exact⟨rfl,k,os,eo⟩
theorem Q3(u:Nat)(wJ:u<18446744073709551616)(w:World)(wI:Lib.TabIs prog w "internal/strconv.uint64pow10" .u64 Lib.pow10Tab) :
 Calls prog 133 #[.int .u64 u,.int .i64 10] w λe w'=>e = .returned (.string ⟨(Lib.decDigits u).toArray⟩)/\∃ k os,w'=grow (w.drewN k) os:=by
 go_enter func133,ntmps133;go_wp2_with fail;refine (Q2 u wJ w wI).mono ?_;rintro e w' ⟨rfl,k,os,rfl⟩;go_wp2_with fail;go_ret;exact⟨rfl,k,os,rfl⟩
end
end Go.Proofs.YtfnopgdcaanaiaaGreatDoor
