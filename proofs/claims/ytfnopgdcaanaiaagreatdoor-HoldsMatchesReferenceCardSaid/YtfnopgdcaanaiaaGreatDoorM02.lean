/- Parts of the proof. No condition. -/
import Derived.Laws.EntriesVeiled
import Derived.Test.YtfnopgdcaanaiaaGreatDoorM01
set_option linter.all false
set_option maxRecDepth 100000
set_option maxHeartbeats 8000000
namespace Go.Proofs.YtfnopgdcaanaiaaGreatDoor
open Go.Proofs.Tryz
namespace D
open Go.RowKit Go.Shelf
attribute [local go_sem] Oper.semAt_some
def so(W:World)(lm lr:Nat)(rem:List (List UInt8)):Prop:=
 ∃ (more:Bool) (r:ByteArray),Boxed W lm 4 (.bool more)/\Boxed W lr 9 (.string r)/\r.size<=140737488355328/\rem=if more then (Np.bg r.data.toList).reverse else []
theorem so.it{B:Nat}{S:Nat->Prop}{W W':World}{lm lr:Nat}{rem:List (List UInt8)}(h:so W lm lr rem)(hs:ItStep B S W W')(h1:S lm)(h2:S lr):so W' lm lr rem:=by
 obtain⟨more,r,b1,b2,h3,h4⟩:=h;exact⟨more,r,kU b1 hs h1,kU b2 hs h2,h3,h4⟩
def IB(W:World)(lm lr:Nat)(rem:List (List UInt8))(e:Ending)(W':World):Prop:=
 (rem = []/\e = .returned (.tuple #[.string ⟨#[]⟩,.bool false])/\W'=W)\/
 ∃ x rest,rem=x::rest/\e = .returned (.tuple #[aA x,.bool true])/\so W' lm lr rest/\∃ b u,(b=lm\/b=lr)/\W'=W.setCell ⟨b,0,none⟩ u
theorem aoQ(lm lr:Nat)(hne:lm≠lr)(rem:List (List UInt8))(w:World)(h:so w lm lr rem) :
 Calls prog 297 #[.pointer (some ⟨lm,0,none⟩),.pointer (some ⟨lr,0,none⟩)] w (IB w lm lr rem):=by
 obtain⟨more,r,b1,b2,h3,h4⟩:=h;have HR:=jq h4;clear h4;have c1:=b1.cell;have c2:=b2.cell;have f1:=b1.frozen;have f2:=b2.frozen
 cases more with
 | false=>
  go_enter func297,ntmps297;go_wp2_with fail;refine bodyPost_ret (v:=.tuple #[.string ⟨#[]⟩,.bool false]) (by simp[results,results297,go_sem]) rfl ?_;exact .inl ⟨HR.out,rfl,rfl⟩
 | true=>
  go_enter func297,ntmps297;go_wp2_with fail;refine (KR _ h3 _ (by decide) (by decide) _).mono ?_;rintro e w' ⟨q,hq,rfl,rfl⟩;rcases hq with ⟨rfl,ii⟩ | ⟨a,b,iv,ux,rfl⟩
  ·have bK:Np.bg r.data.toList = [r.data.toList]:=Np.zL ii;have HS:=jq bK;clear bK ii;go_wp2_with fail;refine bodyPost_ret (v:=.tuple #[.string r,.bool true]) (by simp[results,results297,go_sem]) rfl ?_;refine .inr ⟨r.data.toList,[],by rw[HR.out,Qb trivial,HS.out];rfl,rfl,⟨false,r,b1.set _,fO b2 (by simpa using hne.symm) _,h3,rfl⟩,lm,_,.inl rfl,rfl⟩
  ·have li:a.length+1+b.length=r.size:=by rw[<-bn,iv];simp;omega
   have bK:Np.bg r.data.toList=Np.bg a ++ [b]:=by rw[iv];exact (Np.C6 a b).trans (by rw[Np.zL ux])
   have uL:(r.extract (a.length+1) r.size).data.toList=b:=by rw[Ea,iv];simp
   have rE:(r.extract 0 a.length).data.toList=a:=by rw[Eb,iv];simp
   have Ve:Hid (r.extract (a.length+1) r.size=⟨b.toArray⟩):=jq (j9 (by rw[uL]));have Nm:=jq rE;have HS:=jq bK;clear bK uL rE iv ux;have je:a.length<=140737488355328:=by omega
   have O6:a.length+1<=r.size:=by omega
   have a2Y:(a.length:Int)+1<=(r.size:Int):=by omega
   clear li;go_wp2_with fail;refine bodyPost_ret (v:=.tuple #[.string (r.extract (a.length+1) r.size),.bool true]) (by simp[results,results297,go_sem]) rfl ?_;refine .inr ⟨b,(Np.bg a).reverse,by rw[HR.out,Qb trivial,HS.out];simp,by rw[Ve.out],⟨true,r.extract 0 a.length,fO b1 (by simpa using hne) _,b2.set _,by rw[<-bn,Nm.out];omega,by rw[Nm.out];rfl⟩,lr,_,.inr rfl,rfl⟩
theorem awJ(t:ByteArray)(ht:t.size<=140737488355328)(w:World) :
 Calls prog 214 #[.string t] w λe w'=>e = .returned (.func (.func 297) #[] #[.pointer (some ⟨w.heap.size+1,0,none⟩),.pointer (some ⟨w.heap.size,0,none⟩)])/\
  so w' (w.heap.size+1) w.heap.size (Np.back t.data.toList)/\Below w.heap.size w w'/\w'.heap.size=w.heap.size+2:=by
 have b0:=Boxed.new w 9 (.string t);have hb:∀ o o',Below w.heap.size w ((w.alloc o).alloc o'):=λo o'=>((vQ _ w).alloc (bQ _) _).alloc (by simp) _;by_cases he:t.data.toList = [46]
 ·have lK:(t.toList == [46])=true:=by rw[dQ,he];rfl
  have b1:=Boxed.new (w.alloc (.cells #[.string t] 9)) 4 (.bool false);rw[World.size_alloc] at b1;have HB:Hid (Np.back t.data.toList = []):=jq (by simp[Np.back,he]);clear he;go_enter func214,ntmps214;go_wp2_with fail;go_ret;exact⟨rfl,⟨false,t,b1,b0.alloc _,ht,by rw[HB.out];rfl⟩,hb _ _,by simp⟩
 ·have lK:(t.toList == [46])=false:=by rw[dQ];simpa using he
  have b1:=Boxed.new (w.alloc (.cells #[.string t] 9)) 4 (.bool true);rw[World.size_alloc] at b1;have HB:Hid (Np.back t.data.toList=(Np.bg t.data.toList).reverse):=jq (by simp[Np.back,he]);clear he;go_enter func214,ntmps214;go_wp2_with fail;go_ret;exact⟨rfl,⟨true,t,b1,b0.alloc _,ht,by rw[HB.out];rfl⟩,hb _ _,by simp⟩
theorem Wy:∀ a b:List UInt8,Lib.compareBytes a b=Np.cV a b:=by
 intro a
 induction a with
 | nil=>
  intro b
  cases b with
  | nil=>rfl
  | cons y b=>simp[Lib.compareBytes,Np.cV,Op.bytesLess]
 | cons x a ih=>
  intro b
  cases b with
  | nil=>simp[Lib.compareBytes,Np.cV,Op.bytesLess]
  | cons y b=>
   rw[Lib.compareBytes,ih b];by_cases h1:x<y
   ·simp[Np.cV,Op.bytesLess,h1]
   ·by_cases h2:y<x
    ·have h3:¬ x=y:=λe=>by subst e;exact h1 h2
     simp[Np.cV,Op.bytesLess,h1,h2,h3]
    ·have h3:x=y:=by
      apply UInt8.toNat_inj.1;simp only[UInt8.lt_iff_toNat_lt] at h1 h2;omega
     subst h3;simp[Np.cV,Op.bytesLess,h1]
theorem aNK(s t:ByteArray)(w:World) :
 Calls prog 216 #[.string s,.string t] w λe w'=>e = .returned (.int .i64 (Np.cV s.data.toList t.data.toList))/\w=w':=
 (Tryz.strings_Compare s t w).mono λe w' ⟨he,hw⟩=>⟨by rw[he,Wy],hw.symm⟩
def Ge(g lm lr l8:Nat)(S:Nat->Prop):Prop:=∀ k,S k↔k=g\/k=g+1\/k=lm\/k=lr\/k=l8
def Gd(w:World)(g lm lr l8:Nat)(fv:Value)(m n:List UInt8)(pre:List (List UInt8))(S:Nat->Prop)(W:World):Prop:=
 Ge g lm lr l8 S/\Boxed W g 3 (.int .i64 0)/\Boxed W (g+1) 37 (.int .i64 0)/\Boxed W l8 273 fv/\
 (∃ rem,so W lm lr rem/\∀ rest,Np.back m=pre++rest->Np.nH (Np.back m) (Np.back n)=Np.nH rest rem)/\Below w.heap.size w W
def Gf(w:World)(g lm lr l8:Nat)(m n:List UInt8)(c:Code)(_:List (List UInt8))(S:Nat->Prop)(W:World):Prop:=
 c = .ret/\Ge g lm lr l8 S/\Boxed W g 3 (.int .i64 (Np.nH (Np.back m) (Np.back n)))/\Boxed W (g+1) 37 (.int .i64 0)/\Below w.heap.size w W
theorem N8(w:World)(g lm lr l8:Nat)(fv:Value)(m n:List UInt8)(B:Nat)(hB:w.heap.size<=B):gp B (Gd w g lm lr l8 fv m n):=by
 rintro s S W W' ⟨hS,h1,h2,h3,⟨rem,h4,h5⟩,h6⟩ aB;exact⟨hS,kU h1 aB ((hS _).2 (.inl rfl)),kU h2 aB ((hS _).2 (.inr (.inl rfl))),kU h3 aB ((hS _).2 (.inr (.inr (.inr (.inr rfl))))),
  ⟨rem,h4.it aB ((hS _).2 (.inr (.inr (.inl rfl)))) ((hS _).2 (.inr (.inr (.inr (.inl rfl))))),h5⟩,wh h6 aB hB (bQ _)⟩
theorem Wz(w:World)(g lm lr l8:Nat)(m n:List UInt8)(B:Nat)(hB:w.heap.size<=B)(c:Code):gp B (Gf w g lm lr l8 m n c):=by
 rintro s S W W' ⟨hc,hS,h1,h2,h6⟩ aB;exact⟨hc,hS,kU h1 aB ((hS _).2 (.inl rfl)),kU h2 aB ((hS _).2 (.inr (.inl rfl))),wh h6 aB hB (bQ _)⟩
theorem IB.rd{W W':World}{lm lr:Nat}{rem:List (List UInt8)}{e:Ending}(h:IB W lm lr rem e W'):(rem = []/\e = .returned (.tuple #[.string ⟨#[]⟩,.bool false])/\W'=W)\/
 ∃ x rest,rem=x::rest/\e = .returned (.tuple #[aA x,.bool true])/\so W' lm lr rest/\(∀ S:Nat->Prop,S lm->S lr->RdStep S W W')/\(∀ b t v,b≠lm->b≠lr->Boxed W b t v->Boxed W' b t v)/\(∀ (n:Nat) (w:World),n<=lm->n<=lr->Below n w W->Below n w W'):=by
 rcases h with h | ⟨x,rest,h1,h2,h3,b,u,hb,rfl⟩
 ·exact .inl h
 ·refine .inr ⟨x,rest,h1,h2,h3,λS s1 s2=>?_,λb' t v n1 n2 hv=>fO hv (by rcases hb with rfl | rfl <;> assumption) _,λn w n1 n2 hB=>hB.setCell (p:=⟨b,0,none⟩) (by rcases hb with rfl | rfl <;> assumption) _⟩;exact RdStep.setCell (RdStep.refl S W) (.inl (by rcases hb with rfl | rfl <;> assumption)) _
theorem Od{w:World}{lm lr l8:Nat}{fv:Value}{m n:List UInt8}{pre:List (List UInt8)}{S:Nat->Prop}{W W3:World}{a:Act}{v0 v1:Value}{q:Int}(hS:Ge w.heap.size lm lr l8 S)
 (hr:RdStep S W W3) (ab:∀ k,S k->k<W.heap.size) (c0:Boxed W3 w.heap.size 3 v0) (c1:Boxed W3 (w.heap.size+1) 37 v1) (hB:Below w.heap.size w W3) (hv:Np.nH (Np.back m) (Np.back n)=q) :
 nG (Gd w w.heap.size lm lr l8 fv m n) (Gf w w.heap.size lm lr l8 m n) pre S W .ret a ((W3.setCell ⟨w.heap.size,0,none⟩ (.int .i64 q)).setCell ⟨w.heap.size+1,0,none⟩ (.int .i64 0)):=
 ⟨S,(hr.setCell (.inl ((hS _).2 (.inl rfl))) _).setCell (.inl ((hS _).2 (.inr (.inl rfl)))) _,λ_ e=>.inl e,λk e=>by have:=ab k e;have:=hr.size;simp[World.setCell];omega,rfl,hS,
  by rw[hv];exact fO (c0.set _) (by simp) _,(fO c1 (by simp) _).set _,(hB.setCell (bQ _) _).setCell (by simp) _⟩
def cmpVal(a b:List UInt8):Value:=if Np.aD a&&Np.aD b then .tuple #[.int .i64 (Np.aL a b),.int .i64 0] else .tuple #[.int .i64 0,.int .i64 11]
theorem compare_any(a b:ByteArray)(ha:a.size<=140737488355328)(hb:b.size<=140737488355328)(w:World) :
 Calls prog 137 #[.string a,.string b] w λe w'=>e = .returned (cmpVal a.data.toList b.data.toList)/\Below w.heap.size w w':=by
 refine (callsIn_wide (n:=0)).1 ?_;refine callsIn_of_wp_marks func137 rfl trivial ?_ rfl;simp only[ntmps137,List.size_toArray,List.length_cons,List.length_nil,Nat.reduceAdd,Nat.reduceSub,Array.replicate_succ,Array.replicate_zero,List.push_toArray,List.append_toArray,List.nil_append,List.cons_append];have b0:=Boxed.new w 3 (.int .i64 0);have b1:=Boxed.new (w.alloc (.cells #[.int .i64 0] 3)) 37 (.int .i64 0);rw[World.size_alloc] at b1;replace b0:=b0.alloc (.cells #[.int .i64 0] 37);have dN:Below w.heap.size w ((w.alloc (.cells #[.int .i64 0] 3)).alloc (.cells #[.int .i64 0] 37)):=((vQ _ w).alloc (bQ _) _).alloc (by simp) _;gi_wp2_with fail;refine⟨trivial,rfl,?_⟩;refine (callsIn_wide.2 (valid_any a ha _)).mono ?_;rintro e w1 ⟨rfl,ay⟩;replace b0:=cU b0 ay (by simp;omega);replace b1:=cU b1 ay (by simp);replace dN:=dN.trans (ay.mono (by simp;omega));clear ay;have sH:∀ (W:World) (tmps:Array Value),Boxed W w.heap.size 3 (.int .i64 0)->Boxed W (w.heap.size+1) 37 (.int .i64 11)->Below w.heap.size w W->(Np.aD a.data.toList&&Np.aD b.data.toList)=false->
  tmps[4]?=some (.pointer (some ⟨w.heap.size,0,none⟩))->tmps[5]?=some (.pointer (some ⟨w.heap.size+1,0,none⟩))->
  bodyPostM Fence.wide 0 prog Tryz.f137 (λe w'=>e = .returned (cmpVal a.data.toList b.data.toList)/\Below w.heap.size w w') .ret { tmps:=tmps,defers:=[] } W:=λW tmps c0 c1 hB hv t4 t5=>by
  have d0:=c0.cell;have d1:=c1.cell;exact kV (v:=.tuple #[.int .i64 0,.int .i64 11]) (by simp[results,results137,go_sem,d0,d1,t4,t5]) ⟨by rw[cmpVal,hv];rfl,hB⟩
 have eJ:=jq sH;clear sH;have c0:=b0.cell;have c1:=b1.cell;have f0:=b0.frozen;have f1:=b1.frozen
 cases va:Np.aD a.data.toList with
 | false=>
  gi_wp2_with fail;refine⟨trivial,?_⟩;gi_wp2_with fail;refine eJ.out _ _ (fO (b0.set _) (by simp) _) ((fO b1 (by simp) _).set _) ((dN.setCell (bQ _) _).setCell (by simp) _) (by rw[va];rfl) rfl rfl
 | true=>
  have VA:=jq va;clear va c0 c1 f0 f1;gi_wp2_with fail;refine⟨trivial,rfl,?_⟩;refine (callsIn_wide.2 (valid_any b hb _)).mono ?_;rintro e w2 ⟨rfl,ac⟩;have bK:w.heap.size+1<w1.heap.size:=b1.lt;replace b0:=cU b0 ac (by omega);replace b1:=cU b1 ac bK;replace dN:=dN.trans (ac.mono (by omega));have dW:=ac.size;clear ac;have c0:=b0.cell;have c1:=b1.cell;have f0:=b0.frozen;have f1:=b1.frozen
  cases vb:Np.aD b.data.toList with
  | false=>
   gi_wp2_with fail;refine eJ.out _ _ (fO (b0.set _) (by simp) _) ((fO b1 (by simp) _).set _) ((dN.setCell (bQ _) _).setCell (by simp) _) (by rw[vb,Bool.and_false]) rfl rfl
  | true=>
   have VV:Hid ((Np.aD a.data.toList&&Np.aD b.data.toList)=true):=jq (by rw[VA.out,vb];rfl);clear vb VA eJ;by_cases iv:a.data.toList=b.data.toList
   ·have Yc:(a.toList == b.toList)=true:=by rw[dQ,dQ,iv];simp
    gi_wp2_with fail;have d0:=(fO (b0.set (.int .i64 0)) (p:=⟨w.heap.size+1,0,none⟩) (by simp) (.int .i64 0)).cell;have d1:=((fO b1 (p:=⟨w.heap.size,0,none⟩) (by simp) (.int .i64 0)).set (.int .i64 0)).cell;exact kV (v:=.tuple #[.int .i64 0,.int .i64 0]) (by simp[results,results137,go_sem,d0,d1]) ⟨by rw[cmpVal,VV.out,iv];simp[Np.aL],(dN.setCell (bQ _) _).setCell (by simp) _⟩
   ·have Yc:(a.toList == b.toList)=false:=by rw[dQ,dQ];simpa using iv
    have HV:Hid (cmpVal a.data.toList b.data.toList = .tuple #[.int .i64 (Np.nH (Np.back a.data.toList) (Np.back b.data.toList)),.int .i64 0]):=jq (by rw[cmpVal,VV.out];simp[Np.aL,iv]);clear iv;gi_wp2_with fail;refine⟨trivial,rfl,?_⟩;refine (callsIn_wide.2 (awJ b hb _)).mono ?_;rintro e w3 ⟨rfl,zq,aq,dX⟩;have AQ:=jq dX;clear dX;replace b0:=cU b0 aq (by omega);replace b1:=cU b1 aq (by omega);replace dN:=dN.trans (aq.mono (by omega));clear aq;have hl:=dN.size;have b8:=Boxed.new w3 273 (.func (.func 297) #[] #[.pointer (some ⟨w2.heap.size+1,0,none⟩),.pointer (some ⟨w2.heap.size,0,none⟩)]);replace b0:=b0.alloc (.cells #[.func (.func 297) #[] #[.pointer (some ⟨w2.heap.size+1,0,none⟩),.pointer (some ⟨w2.heap.size,0,none⟩)]] 273);replace b1:=b1.alloc (.cells #[.func (.func 297) #[] #[.pointer (some ⟨w2.heap.size+1,0,none⟩),.pointer (some ⟨w2.heap.size,0,none⟩)]] 273);replace zq:so (w3.alloc (.cells #[.func (.func 297) #[] #[.pointer (some ⟨w2.heap.size+1,0,none⟩),.pointer (some ⟨w2.heap.size,0,none⟩)]] 273)) (w2.heap.size+1) w2.heap.size (Np.back b.data.toList):=zq.it (B:=w3.heap.size) (S:=λ_=>True) (uP _) trivial trivial;replace dN:=dN.alloc dN.size (.cells #[.func (.func 297) #[] #[.pointer (some ⟨w2.heap.size+1,0,none⟩),.pointer (some ⟨w2.heap.size,0,none⟩)]] 273);clear c0 c1 f0 f1;have n8:=Boxed.new w3 273 .nilFunc;have n8c:=n8.cell;have n8f:=n8.frozen;gi_wp2_with fail;clear n8 n8c n8f;have hEG:=enters_of func297 (by kernel_rfl) rfl;have a8X:w.heap.size+1<w2.heap.size:=by omega
    have dC:w3.heap.size=w2.heap.size+2:=AQ.out;refine F6 (n₀:=w.heap.size) (w0:=w) (first:=#[.string a]) (captured:=#[]) (gf:=215) rfl (enters_of func215 (by kernel_rfl) rfl) (mk:=λy=>#[.string a,y]) (λ_=>rfl)
     (DY a ha _ w) dN dN.size (λ_=>rfl) (Gd w w.heap.size (w2.heap.size+1) w2.heap.size w3.heap.size (.func (.func 297) #[] #[.pointer (some ⟨w2.heap.size+1,0,none⟩),.pointer (some ⟨w2.heap.size,0,none⟩)]) a.data.toList b.data.toList)
     (Gf w w.heap.size (w2.heap.size+1) w2.heap.size w3.heap.size a.data.toList b.data.toList)
     (N8 _ _ _ _ _ _ _ _ _ dN.size) (λc=>Wz _ _ _ _ _ _ _ _ dN.size c)
     (λk=>k=w.heap.size\/k=w.heap.size+1\/k=w2.heap.size+1\/k=w2.heap.size\/k=w3.heap.size) (by intro k h;omega) (by intro k h;simp;omega)
     ⟨λ_=>Iff.rfl,b0,b1,b8,⟨_,zq,λrest h=>by rw[h];rfl⟩,dN⟩ ?round ?done ?stop
    case round=>
     rintro l0 pre x S W ba hI fR;clear dC;gi_wp2;refine⟨S,RdStep.refl _ _,λk e=>.inl e,fR,?_⟩;intro l W₂ aB;obtain⟨hS,c0,c1,c8,⟨rem,hp,CA⟩,hB⟩:=N8 w w.heap.size _ _ _ _ _ _ _ dN.size pre S W W₂ hI aB;have c8c:=c8.cell;have mD:∀ k,S k->k<W₂.heap.size:=λk e=>lQ (fR k e) aB.size;have hx:x∈Np.back a.data.toList:=ba.subset (by simp);have uM:x.length<=140737488355328:=by have:=Np.DX hx;rw[bn] at this;omega
     obtain⟨rest,s6⟩:=ba;have kw:=CA (x::rest) (by rw[<-s6];simp);have HR:=jq s6;have HG:=jq kw;clear s6 kw CA hx hI aB b0 b1 b8 zq;gi_wp2_with fail;refine⟨trivial,rfl,?_⟩;refine (CallsIn.inRound l (callsIn_wide.2 (aoQ (w2.heap.size+1) w2.heap.size (by omega) rem _ hp))).mono ?_;intro e W3 hP;rcases hP.rd with ⟨qo,rfl,rfl⟩ | ⟨y,rem',qo,rfl,hp',aM,fw,bB⟩
     ·have c0c:=c0.cell;have c1c:=c1.cell;have c0f:=c0.frozen;have c1f:=c1.frozen;have H0:=jq qo;clear qo hP;gi_wp2_with fail;exact Od hS (RdStep.refl S _) mD c0 c1 hB (by rw[HG.out,H0.out];rfl)
     ·have H0:=jq qo;replace c0:=fw _ _ _ (by omega) (by omega) c0;replace c1:=fw _ _ _ (by omega) (by omega) c1;replace c8:=fw _ _ _ (by have:=AQ.out;omega) (by have:=AQ.out;omega) c8;have Ke:=aM S ((hS _).2 (.inr (.inr (.inl rfl)))) ((hS _).2 (.inr (.inr (.inr (.inl rfl)))));have hB':=bB w.heap.size w (by omega) (by omega) hB;have c0c:=c0.cell;have c1c:=c1.cell;have c0f:=c0.frozen;have c1f:=c1.frozen;clear qo hP aM fw bB c8c hp hB;have kw:Np.nH (Np.back a.data.toList) (Np.back b.data.toList)=if Np.cV x y≠0 then Np.cV x y else Np.nH rest rem':=by rw[HG.out,H0.out];rfl
      have Mg:=jq kw;clear kw HG;have bL:=aNK ⟨x.toArray⟩ ⟨y.toArray⟩ W3;by_cases hc:Np.cV x y=0
      ·have fI:(Np.cV x y != 0)=false:=by simp[hc]
       have HC:=jq hc;clear hc;gi_wp2_with (refine⟨trivial,rfl,?_⟩;gi_at_call 216;refine (CallsIn.inRound l (callsIn_wide.2 bL)).mono ?_;rintro e w' ⟨rfl,rfl⟩);refine⟨S,Ke,λ_ e=>.inl e,λk e=>by have:=mD k e;have:=Ke.size;omega,hS,c0,c1,c8,⟨rem',hp',λr hr=>?_⟩,hB'⟩
       have:r=rest:=List.append_cancel_left (hr.symm.trans HR.out.symm)
       rw[Mg.out,Qc (λh=>h HC.out),this]
      ·have fI:(Np.cV x y != 0)=true:=by simpa using hc
       have HC:=jq hc;clear hc;gi_wp2_with (refine⟨trivial,rfl,?_⟩;gi_at_call 216;refine (CallsIn.inRound l (callsIn_wide.2 bL)).mono ?_;rintro e w' ⟨rfl,rfl⟩);exact Od hS Ke mD c0 c1 hB' (by rw[Mg.out,Qb HC.out])
    case done=>
     rintro D S W hD gW bE ⟨hS,c0,c1,c8,⟨rem,hp,CA⟩,hB⟩ hK;clear dC b0 b1 b8 zq;have c0c:=c0.cell;have c1c:=c1.cell;have c0f:=c0.frozen;have c1f:=c1.frozen;have sM:Np.nH (Np.back a.data.toList) (Np.back b.data.toList) = -1:=by rw[CA [] (by simp)];rfl
     have HE:=jq sM;have El:w.heap.size≠D:=λe=>gW ((hS _).2 (.inl e.symm));have Em:w.heap.size+1≠D:=λe=>gW ((hS _).2 (.inr (.inl e.symm)));have I9:w.heap.size<=D:=by have:=dN.size;omega
     clear sM CA hp c8;gi_wp2;have hK':((W.setCell ⟨w.heap.size,0,none⟩ (.int .i64 (-1))).setCell ⟨w.heap.size+1,0,none⟩ (.int .i64 0)).heap[D]?=some (.deferred (some [])):=
      (wQ _ _ _ _ (by simpa using Em.symm)).trans ((wQ _ _ _ _ (by simpa using El.symm)).trans hK)
     have d0:=(wk (fO (c0.set (.int .i64 (-1))) (p:=⟨w.heap.size+1,0,none⟩) (by simp) (.int .i64 0)) El (.deferred none)).cell;have d1:=(wk ((fO c1 (p:=⟨w.heap.size,0,none⟩) (by simp) (.int .i64 (-1))).set (.int .i64 0)) Em (.deferred none)).cell;exact nJ hK' (v:=.tuple #[.int .i64 (-1),.int .i64 0]) (by simp[results,results137,go_sem,d0,d1]) ⟨by rw[HV.out,HE.out],mA ((hB.setCell (bQ _) _).setCell (by simp) _) I9 _⟩
    case stop=>
     rintro D c pre S W hD gW bE gI ⟨rfl,hS,c0,c1,hB⟩ hK;clear dC b0 b1 b8 zq;have El:w.heap.size≠D:=λe=>gW ((hS _).2 (.inl e.symm));have Em:w.heap.size+1≠D:=λe=>gW ((hS _).2 (.inr (.inl e.symm)));have I9:w.heap.size<=D:=by have:=dN.size;omega
     gi_wp2;have d0:=(wk c0 El (.deferred none)).cell;have d1:=(wk c1 Em (.deferred none)).cell;exact nJ hK (v:=.tuple #[.int .i64 (Np.nH (Np.back a.data.toList) (Np.back b.data.toList)),.int .i64 0]) (by simp[results,results137,go_sem,d0,d1]) ⟨by rw[HV.out],mA hB I9 _⟩
end D
section
open Go.RowKit
def cmpVal(a b:List UInt8):Value:=if Np.aD a&&Np.aD b then .tuple #[.int .i64 (Np.aL a b),.int .i64 0] else .tuple #[.int .i64 0,.int .i64 11]
theorem compare_any(a b:ByteArray)(ha:a.size<=140737488355328)(hb:b.size<=140737488355328)(w:World) :
 Calls prog 137 #[.string a,.string b] w (a0X w.heap.size w (cmpVal a.data.toList b.data.toList)):=
 (D.compare_any a b ha hb w).mono λ_ _ h=>⟨h.1,h.2.low⟩
end
namespace Np
def Stop(y:List UInt8):Prop:=y = []\/∃ c r,y=c::r/\tg c=false
def Lx(x:List UInt8)(ts:List Tok)(free:Bool):Prop:=
 ∀ (y:List UInt8) (p k:Nat),(free=true\/Stop y)->k<=2000->
   (k+ts.length<=2000->∃ ts',ts'.map D5=ts.map D5/\po (x++y) p k=(ts'++(po y (p+x.length) (k+ts.length)).1,(po y (p+x.length) (k+ts.length)).2))/\
   (2000<k+ts.length->(po (x++y) p k).2.1=2)
theorem Lx.weaken{x:List UInt8}{ts:List Tok}{f:Bool}(h:Lx x ts f):Lx x ts false:=λy p k hy hk=>
 h y p k (.inr (by rcases hy with hy | hy;cases hy;exact hy)) hk
theorem alY:∀ (s:List UInt8) (c:UInt8),c∈s->c=46\/∃ x∈bg s,c∈x:=by
 intro s
 induction s with
 | nil=>intro c h;cases h
 | cons a r ih=>
  intro c hc;rw[bg];by_cases ha:a=46
  ·rw[Qb ha];rcases List.mem_cons.1 hc with e | e
   ·exact .inl (e.trans ha)
   ·rcases ih c e with h | ⟨x,hx,EQ⟩
    ·exact .inl h
    ·exact .inr ⟨x,mQ _ hx,EQ⟩
  ·rw[Qc ha];have hne:=rN r
   cases hr:bg r with
   | nil=>exact absurd hr hne
   | cons y ys=>
    rw[hr] at ih;rcases List.mem_cons.1 hc with e | e
    ·exact .inr ⟨a::y,by simp,by simp[e]⟩
    ·rcases ih c e with h | ⟨x,hx,EQ⟩
     ·exact .inl h
     ·rcases List.mem_cons.1 hx with rfl | hx
      ·exact .inr ⟨a::x,by simp,by simp[EQ]⟩
      ·exact .inr ⟨x,by simp[hx],EQ⟩
theorem ahX{c:UInt8}(h:mT c=true):tg c=true:=by
 unfold mT at h;have hl:∀ c:UInt8,rF c=true\/n9 c=true->cls c=3:=by
  intro c h;have hne:¬ (c=32\/c=9\/c=10)/\c≠35:=by
   constructor
   ·rintro (rfl | rfl | rfl) <;> revert h <;> decide
   ·rintro rfl;revert h;decide
  unfold cls;rw[Qc hne.1,Qc hne.2,Qb (by rcases h with h | h <;> simp[h])]
 simp only[Bool.or_eq_true,beq_iff_eq] at h;unfold tg;rcases h with h | h
 ·rw[hl c h];rfl
 ·subst h;decide
theorem akY{c:UInt8}(h:rF c=true\/n9 c=true):cls c=3:=by
 have hne:¬ (c=32\/c=9\/c=10)/\c≠35:=by
  constructor
  ·rintro (rfl | rfl | rfl) <;> revert h <;> decide
  ·rintro rfl;revert h;decide
 unfold cls;rw[Qc hne.1,Qc hne.2,Qb (by rcases h with h | h <;> simp[h])]
theorem ahY{x:List UInt8}(h:cM x=true\/x = [42]):∀ c∈x,tg c=true:=by
 rcases h with h | rfl
 ·unfold cM at h;simp only[Bool.and_eq_true] at h;exact λc hc=>ahX (List.all_eq_true.1 h.2 c hc)
 ·intro c hc;simp at hc;subst hc;decide
theorem aiQ{x:List UInt8}(h:cM x=true\/x = [42]):∃ c r,x=c::r/\cls c=3:=by
 rcases h with h | rfl
 ·unfold cM at h;simp only[Bool.and_eq_true,Qa,Bool.not_eq_true',beq_eq_false_iff_ne] at h
  cases x with
  | nil=>simp at h
  | cons c r=>
   refine⟨c,r,rfl,akY ?_⟩;have h1:=List.all_eq_true.1 h.2 c (by simp);have h2:=h.1.1.2;simp only[List.head?_cons,ne_eq,Option.some.injEq] at h2;simp only[mT,Bool.or_eq_true,beq_iff_eq] at h1;rcases h1 with h1 | h1
   ·exact h1
   ·exact absurd h1 h2
 ·exact⟨42,[],rfl,by decide⟩
theorem Ln:∀ (s:List UInt8),∃ h t,bg s=h::t/\(∀ c r,h=c::r->∃ r',s=c::r'):=by
 intro s
 cases s with
 | nil=>exact⟨[],[],rfl,λc r h=>by cases h⟩
 | cons a r=>
  rw[bg];by_cases ha:a=46
  ·rw[Qb ha];exact⟨[],_,rfl,λc r h=>by cases h⟩
  ·rw[Qc ha];have hne:=rN r
   cases hr:bg r with
   | nil=>exact absurd hr hne
   | cons x xs=>exact⟨a::x,xs,rfl,λc r' h=>by cases h;exact⟨_,rfl⟩⟩
theorem tj{s:List UInt8}(h:aD s=true):s.length<=60/\(s = [46]\/∃ c r,s=c::r/\cls c=3/\s.all tg=true):=by
 unfold aD at h;split at h
 ·rename_i e;subst e;exact⟨by decide,.inl rfl⟩
 ·split at h
  ·cases h
  ·rename_i Bz;have hg:=OS _ _ _ h;have hl:∀ x∈bg s,cM x=true\/x = [42]:=λx hx=>(hg x (List.mem_reverse.2 hx)).symm;obtain⟨a,t,e1,e2⟩:=Ln s;obtain⟨c,r,rfl,hc⟩:=aiQ (hl a (by rw[e1];simp));obtain⟨r',rfl⟩:=e2 c r rfl;refine⟨by omega,.inr ⟨c,r',rfl,hc,List.all_eq_true.2 λb hb=>?_⟩⟩;rcases alY _ b hb with rfl | ⟨x,hx,fw⟩
   ·decide
   ·exact ahY (hl x hx) b fw
theorem Ou{k:Nat}(h:k<10):n9 (UInt8.ofNat (48+k))=true/\(UInt8.ofNat (48+k)).toNat=48+k:=by
 have:k=0\/k=1\/k=2\/k=3\/k=4\/k=5\/k=6\/k=7\/k=8\/k=9:=by omega
 rcases this with rfl | rfl | rfl | rfl | rfl | rfl | rfl | rfl | rfl | rfl <;> exact⟨by decide,by decide⟩
theorem IT(n:Nat):(nI n).all n9=true/\nI n≠[]/\dec (nI n)=n/\(1<=n->(nI n).head?≠some 48)/\(n<10->(nI n).length=1):=by
 induction n using Nat.strongRecOn with
 | ind n ih=>
  rw[nI];split
  ·rename_i h;have hd:=Ou h;refine⟨by rw[List.all_cons,hd.1];rfl,by simp,by show 10 * 0+((UInt8.ofNat (48+n)).toNat - 48)=n;rw[hd.2];omega,λh1=>?_,λ_=>rfl⟩;simp only[List.head?_cons,ne_eq,Option.some.injEq];intro e
   have:=Qd UInt8.toNat e
   rw[hd.2] at this;simp at this;omega
  ·rename_i h;obtain⟨i1,i2,i3,i4,_⟩:=ih (n / 10) (by omega);have hd:=Ou (k:=n % 10) (by omega);refine⟨by rw[List.all_append,i1,List.all_cons,hd.1];rfl,by simp,?_,λ_=>?_,λh2=>absurd h2 h⟩
   ·rw[WV,i3,hd.2];omega
   ·rw[YH i2];exact i4 (by omega)
def bl(n:Int):List UInt8:=nI n.toNat
def rg(d:Datum):List (List UInt8):=[d.text,bl d.n,bl d.m]
def tn(g:Sig):List (List UInt8):=[g.zone,bl g.key,bl g.alg,bl g.frm,bl g.til,bl g.sum]
def yV(s:Signed):List (List UInt8):=[s.set.name,bl s.set.type,bl s.set.life,bl s.set.data.length]++(s.set.data.flatMap rg++s.sigs.flatMap tn)
def cJ(l:List (List UInt8)):List UInt8:=l.flatMap λf=>f ++ [47]
def dE(s:Signed):List UInt8:=cJ (yV s)
theorem Ss:∀ (x y r q:List UInt8),47∉x->47∉y->x++47::r=y++47::q->x=y/\r=q
 | [],[],r,q,_,_,h=>⟨rfl,by simpa using h⟩
 | [],b::y,r,q,_,hy,h=>by
   simp only[List.nil_append,List.cons_append,List.cons.injEq] at h;exact absurd (h.1 ▸ List.mem_cons_self) hy
 | a::x,[],r,q,hx,_,h=>by
   simp only[List.nil_append,List.cons_append,List.cons.injEq] at h;exact absurd (h.1 ▸ List.mem_cons_self) hx
 | a::x,b::y,r,q,hx,hy,h=>by
   simp only[List.cons_append,List.cons.injEq] at h;obtain⟨h1,h2⟩:=Ss x y r q (λhm=>hx (mQ _ hm)) (λhm=>hy (mQ _ hm)) h.2;exact⟨by rw[h.1,h1],h2⟩
theorem yT(f:List UInt8)(l:List (List UInt8)):cJ (f::l)=f++47::cJ l:=by simp[cJ]
theorem Ow:∀ (a b:List (List UInt8)),(∀ x∈a,47∉x)->(∀ x∈b,47∉x)->cJ a=cJ b->a=b
 | [],[],_,_,_=>rfl
 | [],f::b,_,_,h=>by rw[yT] at h;simp[cJ] at h
 | f::a,[],_,_,h=>by rw[yT] at h;simp[cJ] at h
 | f::a,g::b,ha,hb,h=>by
   rw[yT,yT] at h;obtain⟨h1,h2⟩:=Ss f g _ _ (ha f (by simp)) (hb g (by simp)) h;rw[h1,Ow a b (λx hx=>ha x (mQ _ hx)) (λx hx=>hb x (mQ _ hx)) h2]
theorem ri{a b:Int}(ha:0<=a)(hb:0<=b)(h:bl a=bl b):a=b:=by
 have h1:=(IT a.toNat).2.2.1;have h2:=(IT b.toNat).2.2.1;unfold bl at h;rw[h] at h1;omega
theorem rj(a:Int):47∉bl a:=λhm=>by
 have h1:=(IT a.toNat).1
 have:=List.all_eq_true.1 h1 47 hm
 revert this;decide
structure Plain47(s:Signed):Prop where
 name:47∉s.set.name
 type:0<=s.set.type
 life:0<=s.set.life
 data:∀ d∈s.set.data,47∉d.text/\0<=d.n/\0<=d.m
 sigs:∀ g∈s.sigs,47∉g.zone/\0<=g.key/\0<=g.alg/\0<=g.frm/\0<=g.til/\0<=g.sum
theorem Plain47.fields{s:Signed}(h:Plain47 s):∀ x∈yV s,47∉x:=λx hx=>by
 unfold yV at hx;rcases List.mem_append.1 hx with hx | hx
 ·simp only[List.mem_cons,Qh,or_false] at hx;rcases hx with rfl | rfl | rfl | rfl
  ·exact h.name
  ·exact rj _
  ·exact rj _
  ·exact rj _
 ·rcases List.mem_append.1 hx with hx | hx
  ·obtain⟨d,hd,hx⟩:=List.mem_flatMap.1 hx;simp only[rg,List.mem_cons,Qh,or_false] at hx;rcases hx with rfl | rfl | rfl
   ·exact (h.data d hd).1
   ·exact rj _
   ·exact rj _
  ·obtain⟨g,hg,hx⟩:=List.mem_flatMap.1 hx;simp only[tn,List.mem_cons,Qh,or_false] at hx;rcases hx with rfl | rfl | rfl | rfl | rfl | rfl
   ·exact (h.sigs g hg).1
   ·exact rj _
   ·exact rj _
   ·exact rj _
   ·exact rj _
   ·exact rj _
theorem On:∀ (a b:List Datum) (r q:List (List UInt8)),a.length=b.length->(∀ d∈a,0<=d.n/\0<=d.m)->(∀ d∈b,0<=d.n/\0<=d.m)->a.flatMap rg++r=b.flatMap rg++q->a=b/\r=q
 | [],[],r,q,_,_,_,h=>⟨rfl,by simpa using h⟩
 | [],_::_,_,_,hl,_,_,_=>by simp at hl
 | _::_,[],_,_,hl,_,_,_=>by simp at hl
 | x::a,y::b,r,q,hl,ha,hb,h=>by
   simp only[List.flatMap_cons,rg,List.cons_append,List.nil_append,List.cons.injEq] at h;obtain⟨h1,h2,h3,h4⟩:=h;obtain⟨h5,h6⟩:=On a b r q (by simpa using hl) (λd hd=>ha d (mQ _ hd)) (λd hd=>hb d (mQ _ hd)) h4;have hx:=ha x (by simp);have hy:=hb y (by simp);have e:x=y:=by
    obtain⟨_,_,_⟩:=x;obtain⟨_,_,_⟩:=y;simp only at h1 h2 h3 hx hy;rw[h1,ri hx.1 hy.1 h2,ri hx.2 hy.2 h3]
   exact⟨by rw[e,h5],h6⟩
theorem Sq:∀ (a b:List Sig),(∀ g∈a,0<=g.key/\0<=g.alg/\0<=g.frm/\0<=g.til/\0<=g.sum)->(∀ g∈b,0<=g.key/\0<=g.alg/\0<=g.frm/\0<=g.til/\0<=g.sum)->a.flatMap tn=b.flatMap tn->a=b
 | [],[],_,_,_=>rfl
 | [],_::_,_,_,h=>by simp[tn] at h
 | _::_,[],_,_,h=>by simp[tn] at h
 | x::a,y::b,ha,hb,h=>by
   simp only[List.flatMap_cons,tn,List.cons_append,List.nil_append,List.cons.injEq] at h;obtain⟨h1,h2,h3,h4,h5,h6,h7⟩:=h;have hx:=ha x (by simp);have hy:=hb y (by simp);have e:x=y:=by
    obtain⟨_,_,_,_,_,_⟩:=x;obtain⟨_,_,_,_,_,_⟩:=y;simp only at h1 h2 h3 h4 h5 h6 hx hy;rw[h1,ri hx.1 hy.1 h2,ri hx.2.1 hy.2.1 h3,ri hx.2.2.1 hy.2.2.1 h4,ri hx.2.2.2.1 hy.2.2.2.1 h5,ri hx.2.2.2.2 hy.2.2.2.2 h6]
   rw[e,Sq a b (λg hg=>ha g (mQ _ hg)) (λg hg=>hb g (mQ _ hg)) h7]
theorem Fo{s t:Signed}(hs:Plain47 s)(ht:Plain47 t)(h:dE s=dE t):s=t:=by
 have h:=Ow _ _ hs.fields ht.fields h;unfold yV at h;simp only[List.cons_append,List.nil_append,List.cons.injEq] at h;obtain⟨h1,h2,h3,h4,h5⟩:=h;have e4:=ri (by omega) (by omega) h4;obtain⟨h6,h7⟩:=On _ _ _ _ (by omega) (λd hd=>(hs.data d hd).2) (λd hd=>(ht.data d hd).2) h5;have h8:=Sq _ _ (λg hg=>(hs.sigs g hg).2) (λg hg=>(ht.sigs g hg).2) h7;have e2:=ri hs.type ht.type h2;have e3:=ri hs.life ht.life h3;obtain⟨⟨_,_,_,_⟩,_⟩:=s;obtain⟨⟨_,_,_,_⟩,_⟩:=t;simp only at h1 e2 e3 h6 h8;rw[h1,e2,e3,h6,h8]
theorem WW:∀ (k n:Nat),n<10 ^ (k+1)->(nI n).length<=k+1:=by
 intro k
 induction k with
 | zero=>intro n h;rw[nI,Qb (by simpa using h)];simp
 | succ k ih=>
  intro n h;rw[nI];split
  ·simp
  ·have:=ih (n / 10) (by rw[Nat.pow_succ] at h;omega)
   simp only[List.length_append,List.length_singleton];omega
end Np
section
open Go.RowKit
def fe(D:Nat->Prop)(w W:World):Prop:=w.heap.size<=W.heap.size/\∀ k,D k->k<w.heap.size/\W.heap[k]?=w.heap[k]?
theorem fe.refl{D:Nat->Prop}{w:World}(h:∀ k,D k->k<w.heap.size):fe D w w:=⟨bQ _,λk e=>⟨h k e,rfl⟩⟩
theorem fe.trans{D:Nat->Prop}{a b c:World}(h:fe D a b)(k:fe D b c):fe D a c:=⟨yQ h.1 k.1,λi e=>⟨(h.2 i e).1,((k.2 i e).2).trans (h.2 i e).2⟩⟩
theorem fe.of_below{D:Nat->Prop}{a b c:World}(h:fe D a b)(k:Below b.heap.size b c):fe D a c:=⟨yQ h.1 k.size,λi e=>⟨(h.2 i e).1,(k.block i (lQ (h.2 i e).1 h.1)).trans (h.2 i e).2⟩⟩
theorem fe.cell{D:Nat->Prop}{w W:World}(h:fe D w W){p:Addr}(hp:D p.block):W.cell? p=w.cell? p:=iQ (h.2 _ hp).2
theorem fe.round{D S:Nat->Prop}{a b c:World}(h:fe D a b)(k:RdStep S b c)(hS:∀ i,S i->¬ D i):fe D a c:=⟨yQ h.1 k.size,λi e=>⟨(h.2 i e).1,(k.keep i (lQ (h.2 i e).1 h.1) (λhs=>hS i hs e)).trans (h.2 i e).2⟩⟩
def Bi{α:Type}(P:Program)(gf:FuncId)(mk:Value->Array Value)(encs:α->Array Value)(xs:List α)(Dr:Nat->Prop)(w:World):Prop:=
 ∀ (l:Nat) (J Jx:List α->(Nat->Prop)->World->Prop) (S:Nat->Prop) (W:World),fe Dr w W->
   gp W.heap.size J->gp W.heap.size Jx->
   (∀ pre x S1 W1,pre ++ [x] <+: xs->J pre S1 W1->(∀ k,S1 k->k<W1.heap.size)->W.heap.size<=W1.heap.size->
     YieldAt Fence.wide 0 P l (encs x) W1 (DU J Jx pre x S1 W1))->
   (∀ k,S k->¬ Dr k)->(∀ k,S k->k<W.heap.size)->J [] S W->
   CallsIn Fence.wide 0 P gf (mk (.func (.yield l) #[] #[])) W λe W'=>(∃ v,e = .returned v)/\
    ((∃ S',J xs S' W'/\(∀ k,S' k->S k\/W.heap.size<=k))\/(∃ pre S',pre <+: xs/\Jx pre S' W'/\(∀ k,S' k->S k\/W.heap.size<=k)))
theorem aVQ{α:Type}{P:Program}{g:Operand}{ps:Array Tmp}{assign body:Code}{Q:Exit->Act->World->Prop}{a:Act}{w:World}
 {gf:FuncId} {first captured:Array Value} (hg:a.eval g = .func (.func gf) first captured) (eg:∀ args w,(callFunc gf args).run P w = .ok (.enter gf args) w)
 {mk:Value->Array Value} {encs:α->Array Value} {xs:List α} {Dr:Nat->Prop} {w0:World} (gY:∀ y,mk y=first ++ #[y]++captured)
 (hit:Bi P gf mk encs xs Dr w0) (cP:fe Dr w0 w) (fT:∀ x,(encs x).size=ps.size)
 (I:List α->(Nat->Prop)->World->Prop) (Ix:Code->List α->(Nat->Prop)->World->Prop) (A:List α->α->(Nat->Prop)->Act->World->Prop)
 (hI:gp w.heap.size I) (jp:∀ c,gp w.heap.size (Ix c)) (hA:∀ pre x S a' W W',A pre x S a' W->ItStep w.heap.size S W W'->A pre x S a' W')
 (S0:Nat->Prop) (qa:∀ k,S0 k->¬ Dr k) (kY:∀ k,S0 k->k<w.heap.size) (h0:I [] S0 w)
 (BQ:∀ (l:Nat) (pre:List α) (x:α) (S:Nat->Prop) (W:World),pre ++ [x] <+: xs->I pre S W->(∀ k,S k->k<W.heap.size)->
   assign.wpIn (Fence.wide.inRound l) 0 P (Exit.then (λa₁ W₁=>∃ S',RdStep S W W₁/\(∀ k,S' k->S k\/W.heap.size<=k)/\(∀ k,S' k->k<W₁.heap.size)/\A pre x S' a₁ W₁) (λ_ _ _=>False))
    { tmps:=(ps.zip (encs x)).foldl (λt (p,v)=>t.setIfInBounds p v) a.tmps,defers:=[] } W)
 (BW:∀ (l:Nat) (pre:List α) (x:α) (S:Nat->Prop) (a₁:Act) (W:World),pre ++ [x] <+: xs->A pre x S a₁ W->(∀ k,S k->k<W.heap.size)->
   body.wpIn (Fence.wide.inRound l) 0 P (nG I Ix (pre ++ [x]) S W) a₁ W)
 (mc:∀ (D:Nat) (S:Nat->Prop) (W:World),w.heap.size<=D->¬ S D->(∀ k,S k->S0 k\/w.heap.size<=k)->I xs S W->W.heap[D]?=some (.deferred (some []))->
   Q .normal { a with defers:={ target:=.collected D,args:=#[] } :: a.defers } W)
 (mj:∀ (D:Nat) (c:Code) (pre:List α) (S:Nat->Prop) (W:World),w.heap.size<=D->¬ S D->(∀ k,S k->S0 k\/w.heap.size<=k)->pre <+: xs->Ix c pre S W->W.heap[D]?=some (.deferred (some []))->
   c.wpIn Fence.wide 0 P Q { a with defers:={ target:=.collected D,args:=#[] } :: a.defers } W) :
 (Code.rangeFunc g ps assign body).wpIn Fence.wide 0 P Q a w:=by
 refine wpIn_rangeFunc ?_;intro fn gj;show ∃ (l:Nat) (mark:List Deferred) (w₁:World) (d:Deferred) (w₁':World) (f:FuncId) (args:Array Value) (w₂:World),(Instr.enterLoop fn a.tmps ps assign body none).run P w = .ok (l,mark) w₁/\_;obtain⟨rec,fU⟩:∃ rec:LoopState->Option Code->Loop,rec=λst pe=>{ state:=st,pending:=pe,fn,tmps:=a.tmps,params:=ps,assign,body,defers:=w.heap.size }:=⟨_,rfl⟩;obtain⟨W1,am⟩:=acJ ((w.alloc (.deferred (some []))).alloc (.loop (rec .ready none)));have an:W1.heap.size=w.heap.size+2:=by rw[<-am];simp
 have iM:W1.heap[w.heap.size+1]?=some (.loop (rec .ready none)):=by
  rw[<-am];have:=World.alloc_heap_new (w.alloc (.deferred (some []))) (.loop (rec .ready none));rwa [World.size_alloc] at this
 have BG:W1.heap[w.heap.size]?=some (.deferred (some [])):=by
  rw[<-am];exact (Below.heap_alloc _ _ _ (by simp)).trans (World.alloc_heap_new w _)
 have mC:I [] S0 W1:=by rw[<-am];exact hI _ _ _ _ (hI _ _ _ _ h0 (uP _)) (uP _)
 have ay:fe Dr w0 W1:=by
  rw[<-am];exact cP.of_below (((vQ _ w).alloc (bQ _) _).alloc (by simp) _)
 refine⟨w.heap.size+1,[{ target:=.collected w.heap.size,args:=#[] }],W1,{ target:=.fn (.func gf) captured,args:=first ++ #[.func (.yield (w.heap.size+1)) #[] #[]] },W1,gf,
  first ++ #[.func (.yield (w.heap.size+1)) #[] #[]]++captured,W1,?_,?_,?_,?_,λh=>by simp[Fence.wide] at h,?_⟩
 ·rw[<-am,fU];exact run_enterLoop_outer _ _ _ _ _
 ·simp only[resolve,hg];simp[go_sem]
 ·intro f' _;trivial
 ·simp[invoke,go_sem,eg]
 ·rw[<-gY];have key:=hit (w.heap.size+1)
   (λpre Si W=>∃ S:Nat->Prop,(∀ k,Si k↔S k\/k=w.heap.size+1)/\(¬ S w.heap.size)/\(¬ S (w.heap.size+1))/\(∀ k,S k->S0 k\/w.heap.size<=k)/\I pre S W/\W.heap[w.heap.size+1]?=some (.loop (rec .ready none))/\W.heap[w.heap.size]?=some (.deferred (some [])))
   (λpre Si W=>∃ (S:Nat->Prop) (c:Code),(∀ k,Si k↔S k\/k=w.heap.size+1)/\(¬ S w.heap.size)/\(¬ S (w.heap.size+1))/\(∀ k,S k->S0 k\/w.heap.size<=k)/\Ix c pre S W/\W.heap[w.heap.size+1]?=some (.loop (rec .done (some c)))/\W.heap[w.heap.size]?=some (.deferred (some [])))
   (λk=>S0 k\/k=w.heap.size+1) W1 ay ?_ ?_ ?_ ?_ ?_ ?_
  ·refine key.mono ?_;rintro e W2 ⟨⟨v,rfl⟩,(⟨S',⟨S,dH,hD,hL,bE,hi,hl,hk⟩,_⟩ | ⟨pre,S',gI,⟨S,c,dH,hD,hL,bE,hi,hl,hk⟩,_⟩)⟩
   ·refine⟨none,_,by have:=run_endLoop (P:=P) hl (by rw[fU];simp);rw[fU] at this;exact this,?_⟩;exact mc _ S _ (bQ _) hD bE (hI _ _ _ _ hi (jW _ (by omega) hL)) ((zQ (by omega)).trans hk)
   ·refine⟨some c,_,by have:=run_endLoop (P:=P) hl (by rw[fU];simp);rw[fU] at this;exact this,?_⟩;exact mj _ c pre S _ (bQ _) hD bE gI ((jp c) _ _ _ _ hi (jW _ (by omega) hL)) ((zQ (by omega)).trans hk)
  ·rintro pre Si A1 B1 ⟨S,dH,hD,hL,bE,hi,hl,hk⟩ aB;have ab:w.heap.size+1<A1.heap.size:=(eQ.1 hl).1;exact⟨S,dH,hD,hL,bE,hI _ _ _ _ hi (aB.weaken (by omega) (λk e=>(dH k).2 (.inl e))),(aB.keep _ ab (.inl (by omega))).trans hl,(aB.keep _ (by omega) (.inl (by omega))).trans hk⟩
  ·rintro pre Si A1 B1 ⟨S,c,dH,hD,hL,bE,hi,hl,hk⟩ aB;have ab:w.heap.size+1<A1.heap.size:=(eQ.1 hl).1;exact⟨S,c,dH,hD,hL,bE,jp c _ _ _ _ hi (aB.weaken (by omega) (λk e=>(dH k).2 (.inl e))),(aB.keep _ ab (.inl (by omega))).trans hl,(aB.keep _ (by omega) (.inl (by omega))).trans hk⟩
  ·
   rintro pre x Si W ba ⟨S,dH,hD,hL,bE,hi,hl,hk⟩ fR Jl;have ab:w.heap.size+1<W.heap.size:=(eQ.1 hl).1;have BN:∀ k,S k->k<W.heap.size:=λk e=>fR k ((dH k).2 (.inl e));have hy:=run_yield (P:=P) (args:=encs x) hl (by rw[fU];exact fT x);rw[fU] at hy;refine⟨fn,_,assign,body,hy,roundIn_of_wpIn gj (wpIn_mono (BQ _ pre x S W ba hi BN) ?_)⟩;intro e a1 Wa hq
   cases e with
   | normal=>
    obtain⟨S1,gJ,bK,CD,BB⟩:=hq;have uu:¬ S1 w.heap.size:=λe=>by rcases bK _ e with e | e;exact hD e;omega
    have qk:¬ S1 (w.heap.size+1):=λe=>by rcases bK _ e with e | e;exact hL e;omega
    have jO:Wa.heap[w.heap.size+1]?=some (.loop (rec .ready none)):=(gJ.keep _ ab hL).trans hl;have Ci:Wa.heap[w.heap.size]?=some (.deferred (some [])):=(gJ.keep _ (by omega) hD).trans hk;have ur:w.heap.size+1<Wa.heap.size:=(eQ.1 jO).1;refine⟨_,run_beginRound jO (by rw[fU]),?_⟩;have hb:=BW (w.heap.size+1) pre x S1 a1 (Wa.putObj (w.heap.size+1) (.loop { rec .ready none with state:=.busy })) ba (hA _ _ _ _ _ _ BB (jW _ (by omega) qk)) (λk e=>by simpa using CD k e);refine wpIn_mono hb ?_;have fin:∀ (jump:Option Code) (W3:World) (S3:Nat->Prop),RdStep S1 (Wa.putObj (w.heap.size+1) (.loop { rec .ready none with state:=.busy })) W3->(∀ k,S3 k->S1 k\/(Wa.putObj (w.heap.size+1) (.loop { rec .ready none with state:=.busy })).heap.size<=k)->(∀ k,S3 k->k<W3.heap.size)->
     (Instr.endRound (w.heap.size+1) jump).run P W3 = .ok (.bool jump.isNone) (W3.putObj (w.heap.size+1) (.loop (rec (if jump.isNone then .ready else .done) jump)))/\
     (W3.putObj (w.heap.size+1) (.loop (rec (if jump.isNone then .ready else .done) jump))).heap[w.heap.size+1]?=some (.loop (rec (if jump.isNone then .ready else .done) jump))/\
     (W3.putObj (w.heap.size+1) (.loop (rec (if jump.isNone then .ready else .done) jump))).heap[w.heap.size]?=some (.deferred (some []))/\
     ¬ S3 w.heap.size/\¬ S3 (w.heap.size+1)/\(∀ k,S3 k->S k\/W.heap.size<=k)/\
     RdStep Si W (W3.putObj (w.heap.size+1) (.loop (rec (if jump.isNone then .ready else .done) jump))):=λjump W3 S3 dz dX dC=>by
     have eU:(Wa.putObj (w.heap.size+1) (.loop { rec .ready none with state:=.busy })).heap[w.heap.size+1]?=some (.loop { rec .ready none with state:=.busy }):=World.putObj_heap_same ur;have jN:(Wa.putObj (w.heap.size+1) (.loop { rec .ready none with state:=.busy })).heap[w.heap.size]?=some (.deferred (some [])):=(zQ (by omega)).trans Ci;have nW:=(dz.keep _ (by simpa using ur) qk).trans eU;have mH:=(dz.keep _ (by simp;omega) uu).trans jN;have nX:=(eQ.1 nW).1
     have:=run_endRound (P:=P) jump nW
     rw[fU] at this |-;have lN:=dz.size;have uH:=gJ.size;simp only[World.putObj_size] at lN dX;refine⟨this,World.putObj_heap_same nX,(zQ (by omega)).trans mH,λe=>?_,λe=>?_,λk e=>?_,?_⟩
     ·rcases dX _ e with e | e;exact uu e;omega
     ·rcases dX _ e with e | e;exact qk e;omega
     ·rcases dX _ e with e | e
      ·exact bK _ e
      ·right;omega
     ·refine⟨dz.os.trans gJ.os,dz.tape.trans gJ.tape,dz.output.trans gJ.output,by simp;omega,λk hk' uv=>?_⟩;have mJ:k≠w.heap.size+1:=λe=>uv ((dH k).2 (.inr e));have uw:¬ S k:=λe=>uv ((dH k).2 (.inl e));have Cq:¬ S1 k:=λe=>by rcases bK _ e with e | e;exact uw e;omega
      exact (zQ mJ).trans ((dz.keep k (by simp;omega) Cq).trans ((zQ mJ).trans (gJ.keep k hk' uw)))
    have fin2:∀ (S3:Nat->Prop) (W3:World) (o:Obj),(∀ k,S3 k->k<W3.heap.size)->W.heap.size<=W3.heap.size->(∀ k,S3 k->S k\/W.heap.size<=k)->
     (∀ k,(S3 k\/k=w.heap.size+1)->Si k\/W.heap.size<=k)/\(∀ k,(S3 k\/k=w.heap.size+1)->k<(W3.putObj (w.heap.size+1) o).heap.size):=λS3 W3 o h1 h2 h3=>
     ⟨λk e=>by rcases e with e | e;exact (h3 k e).imp (λe'=>(dH k).2 (.inl e')) id;exact .inl ((dH k).2 (.inr e)),λk e=>by
      simp only[World.putObj_size];rcases e with e | e
      ·exact h1 k e
      ·omega⟩
    have sub3:∀ (S3:Nat->Prop),(∀ k,S3 k->S k\/W.heap.size<=k)->∀ k,S3 k->S0 k\/w.heap.size<=k:=λS3 h k e=>by
     rcases h k e with e | e
     ·exact bE k e
     ·right;omega
    rintro e a3 W3 hp
    cases e with
    | normal=>
     obtain⟨S3,dz,dX,dC,lc⟩:=hp;obtain⟨hr,ld,ky,jR,gH,eI,aM⟩:=fin none W3 S3 dz dX dC;have an:W.heap.size<=W3.heap.size:=by simpa using aM.size
     refine⟨_,_,hr,λk=>S3 k\/k=w.heap.size+1,aM,(fin2 S3 W3 (.deferred none) dC an eI).1,(fin2 S3 W3 _ dC an eI).2,.inl ⟨rfl,S3,λ_=>Iff.rfl,jR,gH,sub3 S3 eI,hI _ _ _ _ lc (jW _ (by omega) gH),ld,ky⟩⟩
    | ret=>
     obtain⟨S3,dz,dX,dC,lc⟩:=hp;obtain⟨hr,ld,ky,jR,gH,eI,aM⟩:=fin (some .ret) W3 S3 dz dX dC;have an:W.heap.size<=W3.heap.size:=by simpa using aM.size
     refine⟨_,_,hr,λk=>S3 k\/k=w.heap.size+1,aM,(fin2 S3 W3 (.deferred none) dC an eI).1,(fin2 S3 W3 _ dC an eI).2,.inr ⟨rfl,S3,.ret,λ_=>Iff.rfl,jR,gH,sub3 S3 eI,jp _ _ _ _ _ lc (jW _ (by omega) gH),ld,ky⟩⟩
    | exit id=>
     obtain⟨S3,dz,dX,dC,lc⟩:=hp;obtain⟨hr,ld,ky,jR,gH,eI,aM⟩:=fin (some (.exit id)) W3 S3 dz dX dC;have an:W.heap.size<=W3.heap.size:=by simpa using aM.size
     refine⟨_,_,hr,λk=>S3 k\/k=w.heap.size+1,aM,(fin2 S3 W3 (.deferred none) dC an eI).1,(fin2 S3 W3 _ dC an eI).2,.inr ⟨rfl,S3,.exit id,λ_=>Iff.rfl,jR,gH,sub3 S3 eI,jp _ _ _ _ _ lc (jW _ (by omega) gH),ld,ky⟩⟩
    | goto t=>exact hp.elim
    | panic ch=>exact hp.elim
    | outgrown=>exact hp.elim
   | ret=>exact hq.elim
   | exit id=>exact hq.elim
   | goto t=>exact hq.elim
   | panic ch=>exact hq.elim
   | outgrown=>exact hq.elim
  ·rintro k (e | rfl)
   ·exact qa k e
   ·exact λh=>by have h1:=(cP.2 _ h).1;have h2:=cP.1;omega
  ·rintro k (e | rfl)
   ·have:=kY k e;omega
   ·omega
  ·exact⟨S0,λ_=>Iff.rfl,λe=>by have:=kY _ e;omega,λe=>by have:=kY _ e;omega,λ_ e=>.inl e,mC,iM,BG⟩
theorem F7{α:Type}{P:Program}{g:Operand}{ps:Array Tmp}{assign body:Code}{Q:Exit->Act->World->Prop}{a:Act}{w:World}
 {gf:FuncId} {first captured:Array Value} (hg:a.eval g = .func (.func gf) first captured) (eg:∀ args w,(callFunc gf args).run P w = .ok (.enter gf args) w)
 {mk:Value->Array Value} {encs:α->Array Value} {xs:List α} {Dr:Nat->Prop} {w0:World} (gY:∀ y,mk y=first ++ #[y]++captured)
 (hit:Bi P gf mk encs xs Dr w0) (cP:fe Dr w0 w) (fT:∀ x,(encs x).size=ps.size)
 (I:List α->(Nat->Prop)->World->Prop) (Ix:Code->List α->(Nat->Prop)->World->Prop)
 (hI:gp w.heap.size I) (jp:∀ c,gp w.heap.size (Ix c))
 (S0:Nat->Prop) (qa:∀ k,S0 k->¬ Dr k) (kY:∀ k,S0 k->k<w.heap.size) (h0:I [] S0 w)
 (CC:∀ (l0:Nat) (pre:List α) (x:α) (S:Nat->Prop) (W:World),pre ++ [x] <+: xs->I pre S W->(∀ k,S k->k<W.heap.size)->
   assign.wpIn (Fence.wide.inRound l0) 0 P (Exit.then (λa₁ W₁=>∃ S',RdStep S W W₁/\(∀ k,S' k->S k\/W.heap.size<=k)/\(∀ k,S' k->k<W₁.heap.size)/\
    ∀ l W₂,ItStep w.heap.size S' W₁ W₂->body.wpIn (Fence.wide.inRound l) 0 P (nG I Ix (pre ++ [x]) S' W₂) a₁ W₂) (λ_ _ _=>False))
    { tmps:=(ps.zip (encs x)).foldl (λt (p,v)=>t.setIfInBounds p v) a.tmps,defers:=[] } W)
 (mc:∀ (D:Nat) (S:Nat->Prop) (W:World),w.heap.size<=D->¬ S D->(∀ k,S k->S0 k\/w.heap.size<=k)->I xs S W->W.heap[D]?=some (.deferred (some []))->
   Q .normal { a with defers:={ target:=.collected D,args:=#[] } :: a.defers } W)
 (mj:∀ (D:Nat) (c:Code) (pre:List α) (S:Nat->Prop) (W:World),w.heap.size<=D->¬ S D->(∀ k,S k->S0 k\/w.heap.size<=k)->pre <+: xs->Ix c pre S W->W.heap[D]?=some (.deferred (some []))->
   c.wpIn Fence.wide 0 P Q { a with defers:={ target:=.collected D,args:=#[] } :: a.defers } W) :
 (Code.rangeFunc g ps assign body).wpIn Fence.wide 0 P Q a w:=
 aVQ hg eg gY hit cP fT I Ix (λpre x S a₁ W=>∀ l W₂,ItStep w.heap.size S W W₂->body.wpIn (Fence.wide.inRound l) 0 P (nG I Ix (pre ++ [x]) S W₂) a₁ W₂)
  hI jp (λ_ _ _ _ _ _ h hs l W₂ h2=>h l W₂ (hs.trans h2)) S0 qa kY h0 CC (λl _ _ _ _ W _ h _=>h l W (ItStep.refl _ _ _)) mc mj
end
section
section
variable {P:Program} {ops:Array Oper} {Q:Exit->Act->World->Prop} {n l:Nat}
theorem aGZ{row:String}{args:Array Value}{w:World}{R:Value->World->Prop}(h:Rows P row args w R):RowsIn (Fence.wide.inRound l) n P row args w R:=by
 intro c cs _;obtain⟨v,w',r,s⟩:=h c cs;exact⟨v,w',r,stepsIn_wide.2 s⟩
theorem S7{o:Oper}{a:Act}{K:Act->World->Prop}{w:World}(hd:∀ c,o.op≠.defer c)(sB:¬ LetsOut Q)(h:o.wp P a w K Q\/(o.asks P a w/\LetsOut Q)):o.wpIn (Fence.wide.inRound l) n P a w K Q:=by
 have h:=h.resolve_right (λe=>sB e.2);refine⟨λf _=>trivial,?_⟩;rw[Oper.semAt_eq _ _ _ hd];unfold Oper.wp at h;generalize (execOp a.eval o).run P w=r at *
 cases r with
 | ok x w'=>
  cases x <;> simp only[Oper.upon,Oper.uponIn] at h |- <;> first | exact h | exact h.elim | skip
  ·exact⟨λe=>by simp[Fence.wide] at e,CallsIn.inRound l (callsIn_wide.2 h)⟩
  ·exact⟨λe=>by simp[Fence.wide] at e,aGZ h⟩
 | halt x w'=>cases x <;> simp only[Oper.upon,Oper.uponIn] at h |- <;> first | exact h | exact h.elim
theorem aVJ{lst:List Oper}(hd:∀ o∈lst,∀ c,o.op≠.defer c)(sB:¬ LetsOut Q):∀ {a:Act} {w:World},wpList P ops Q lst a w->wpListIn (Fence.wide.inRound l) n P ops Q lst a w:=by
 induction lst with
 | nil=>exact λh=>h
 | cons o rest ih=>
  intro a w h;have ih':∀ {a:Act} {w:World},wpList P ops Q rest a w->wpListIn (Fence.wide.inRound l) n P ops Q rest a w:=ih (λo ho=>hd o (mQ _ ho));unfold wpList at h;unfold wpListIn;split at h
  ·rename_i hw;rw[Qb hw];refine Oper.wpIn_mono (λa w h=>ih' h) (S7 (hd o (by simp)) sB h)
  ·rename_i hw;rw[Qc hw];exact⟨λ_ _=>trivial,ih' h⟩
theorem aUJ{md:Region.Mode}(hd:∀ (i:Nat) (o:Oper),ops[i]?=some o->∀ c,o.op≠.defer c)(sB:¬ LetsOut Q):∀ (f:Nat) {listed:Array Bool} {a:Act} {w:World},wpAny P md ops Q f listed a w->wpAnyIn (Fence.wide.inRound l) n P md ops Q f listed a w:=by
 intro f
 induction f with
 | zero=>exact λh=>h
 | succ f ih=>
  intro listed a w h;refine⟨h.1,λi hi=>?_⟩;have h2:=h.2 i hi;unfold wpOp at h2;unfold wpOpIn
  cases ho:ops[i]? with
  | none=>rw[ho] at h2;exact ih h2
  | some o=>
   rw[ho] at h2;dsimp only at h2 |-;split at h2
   ·rename_i hw;rw[Qb hw];refine Oper.wpIn_mono (λa w h=>ih h) (S7 (hd i o ho) sB h2)
   ·rename_i hw;rw[Qc hw];exact⟨λ_ _=>trivial,ih h2⟩
end
def KY(ops:Array Oper):Bool:=ops.all λo=>match o.op with | .defer _=>false | _=>true
theorem aoZ{ops:Array Oper}(h:KY ops=true):∀ (i:Nat) (o:Oper),ops[i]?=some o->∀ c,o.op≠.defer c:=λi o ho c e=>by
 unfold KY at h;rw[Array.all_eq_true] at h;obtain⟨hi,hg⟩:=eQ.1 ho
 have:=h i hi
 rw[hg,e] at this
 cases this
section
variable {P:Program} {ops:Array Oper} {Q:Exit->Act->World->Prop} {n l id:Nat} {a:Act} {w:World}
theorem F8(hd:KY ops=true)(hm:P.follows .mixedOrders=true)(sB:¬ LetsOut Q)(h:wpAny P .any ops Q ops.size (Array.replicate ops.size false) a w.drew):(Code.region id ops true).wpIn (Fence.wide.inRound l) n P Q a w:=
 wpIn_region_any hm (aUJ (aoZ hd) sB _ h)
end
theorem Dc{F:Fence}{n:Nat}{P:Program}{c:Code}{Q:Exit->Act->World->Prop}{a:Act}{w:World}(h:∀ a0,a0=a->c.wpIn F n P Q a0 w):c.wpIn F n P Q a w:=h a rfl
section
variable {P:Program} {ops:Array Oper} {Q:Exit->Act->World->Prop} {n l:Nat}
theorem aUY{F:Fence}{o:Oper}{a:Act}{K K':Act->World->Prop}{w:World}(h:o.wpIn F n P a w K (Exit.then K' Q)):o.wpIn F n P a w K Q:=by
 refine⟨h.1,?_⟩;have h:=h.2;generalize (o.semAt F.round a.eval).run P w=r at *
 cases r with
 | ok x w'=>
  cases x <;> simp only[Oper.uponIn] at h |- <;> first | exact h | (refine⟨h.1,h.2.mono λe w'' he=>?_⟩;cases e <;> exact he)
 | halt x w'=>cases x <;> simp only[Oper.uponIn] at h |- <;> first | exact h | exact h.elim
theorem aVZ{o:Oper}{rest:List Oper}{a:Act}{w:World}(hg:o.guard=none)(hd:∀ c,o.op≠.defer c)(sB:¬ LetsOut Q)
 (h:wpList P ops (Exit.then (wpListIn (Fence.wide.inRound l) n P ops Q rest) Q) [o] a w):wpListIn (Fence.wide.inRound l) n P ops Q (o::rest) a w:=by
 have hw:Region.wanted o (yielded ops a.tmps)=true:=by simp[Region.wanted,hg]
 have h1:=aVJ (Q:=Exit.then (wpListIn (Fence.wide.inRound l) n P ops Q rest) Q) (l:=l) (n:=n) (lst:=[o]) (λx hx=>by rw[List.mem_singleton] at hx;subst hx;exact hd) (λe=>sB e) h;unfold wpListIn at h1 |-;rw[Qb hw] at h1 |-;exact aUY h1
theorem aVY{K:Act->World->Prop}{a:Act}{w:World}(h:K a w):wpList P ops (Exit.then K Q) [] a w:=h
end
end
end Go.Proofs.YtfnopgdcaanaiaaGreatDoor
