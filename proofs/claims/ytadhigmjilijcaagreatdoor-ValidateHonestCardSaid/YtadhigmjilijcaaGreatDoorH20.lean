/- No condition. -/
import Derived.Test.YtadhigmjilijcaaGreatDoorH14
import Derived.Test.YtadhigmjilijcaaGreatDoorH15
import Derived.Test.YtadhigmjilijcaaGreatDoorH17
set_option linter.all false
set_option maxRecDepth 100000
set_option maxHeartbeats 8000000
namespace Go.Proofs.YtadhigmjilijcaaGreatDoor
open Go.Proofs.Tryz
section
open Go.RowKit Go.Shelf
attribute [local go_sem] Oper.semAt_some
structure CV where
 host:Int
 frm:Int
 til:Int
 str:ByteArray
 A:Option Addr
 n:Nat
 c:Nat
def CV.cells(x:CV):Array Value:=#[.int .i64 x.host,.int .i64 x.frm,.int .i64 x.til,.string x.str,.slice x.A x.n x.c]
structure CVOf(w:World)(B:Nat)(x:CV)(c:Np.Copy):Prop where
 host:x.host=c.host
 frm:x.frm=c.frm
 til:x.til=c.til
 apex:x.str.data.toList=c.zone.apex
 size:x.str.size<=140737488355328
 sets:SlR az 5 w B (.slice x.A x.n x.c) c.zone.sets
 len:c.zone.sets.length=x.n
theorem CVOf.keep{w w':World}{B:Nat}{x:CV}{c:Np.Copy}(h:CVOf w B x c)(hb:Below B w w'):CVOf w' B x c:=⟨h.host,h.frm,h.til,h.apex,h.size,h.sets.keep ax hb,h.len⟩
theorem CVOf.more{w:World}{B B':Nat}{x:CV}{c:Np.Copy}(h:CVOf w B x c)(hb:B<=B'):CVOf w B' x c:=⟨h.host,h.frm,h.til,h.apex,h.size,h.sets.more aK hb,h.len⟩
end
section
open Go.RowKit


theorem bBZ{α:Type}(R:aDQ α)(sz:Nat)(w:World)(B:Nat):SlR R sz w B (.slice none 0 0) []:=⟨none,0,rfl,by simp,by simp,λi x hx=>by simp at hx⟩
theorem amQ(w:World)(l:List Value)(T:TypeId):fm (w.alloc (.cells l.toArray T)) w.heap.size 0 l:=λj v hj=>by
 have h:=heap_alloc_new w (.cells l.toArray T);unfold World.cell?;rw[h,Nat.zero_add];simpa using hj
theorem fm.off{w:World}{b o:Nat}{e:List Value}(h:fm w b o e){M:Nat->Prop}(hM:¬ M b):fm (cU w M) b o e:=λj v hj=>(iQ (a:=⟨b,o+j,none⟩) (rg hM)).trans (h j v hj)
theorem ajK{α:Type}{R:aDQ α}{sz:Nat}{p:Nat->Prop}{w w':World}{v:Value}{xs:List α}(h:∀ M:Nat->Prop,(∀ k,M k->p k)->SlR R sz (cU w M) w.heap.size v xs)(hk:dR R)(hm:ef R)(hb:Below w.heap.size w w'){M:Nat->Prop}(hM:∀ k,M k->p k\/w.heap.size<=k):SlR R sz (cU w' M) w'.heap.size v xs:=by
 have h1:=h (λk=>M k/\k<w.heap.size) (λk e=>(hM k e.1).resolve_right (by omega));refine (h1.keep hk ?_).more hm hb.size;refine⟨hb.os,hb.tape,hb.output,by rw[oK,oK];exact hb.size,λk hk=>?_⟩;by_cases hm:M k
 ·have h1:k<w'.heap.size:=lqQ hk hb.size;rw[yh hm,yh (M:=λk=>M k/\k<w.heap.size) ⟨hm,hk⟩];simp[hk,h1]
 ·rw[rg hm,rg (M:=λk=>M k/\k<w.heap.size) (λe=>hm e.1)];exact hb.block k hk
theorem ajX{α:Type}{R:aDQ α}{sz cb:Nat}{p:Nat->Prop}{w w':World}{v:Value}{xs:List α}(h:∀ M:Nat->Prop,(∀ k,M k->p k)->SlR R sz (cU w M) w.heap.size v xs)(hk:dR R)(hs:ia R)(hm:ef R)(hc:p cb)(ht:Turned cb w w'):SlR R sz w' w'.heap.size v xs:=by
 have h1:=h (λk=>k=cb) (λk e=>e ▸ hc);have h2:=Leaves'.slr (M:=λk=>k=cb) (M':=λk=>k=cb) hk hs hm (w':=w') ⟨ht.os,ht.tape,ht.output,Nat.le_of_eq ht.size.symm,λi _ hi=>⟨hi,ht.block i hi⟩⟩ h1;exact (h2.sans hs (M':=λ_=>False) (λ_ e=>e.elim)).all hs
theorem dO.later{α:Type}{R:aDQ α}{sz n:Nat}{w w':World}{v:Value}{xs:List α}(h:dO R sz 0 n w v xs)(hk:dR R)(hm:ef R)(hb:Below w.heap.size w w'){M:Nat->Prop}(hM:∀ k,M k->k<n\/w.heap.size<=k):SlR R sz (cU w' M) w'.heap.size v xs:=
 ajK h hk hm hb (λk e=>(hM k e).imp (λe=>⟨jQ _,e⟩) id)
theorem dO.keep{α:Type}{R:aDQ α}{sz n:Nat}{w w':World}{v:Value}{xs:List α}(h:dO R sz 0 n w v xs)(hk:dR R)(hm:ef R)(hb:Below w.heap.size w w'):dO R sz 0 n w' v xs:=λ_ hM=>h.later hk hm hb (λk e=>.inl (hM k e).2)
theorem dO.less{α:Type}{R:aDQ α}{sz n m:Nat}{w:World}{v:Value}{xs:List α}(h:dO R sz 0 n w v xs)(hm:m<=n):dO R sz 0 m w v xs:=λM hM=>h M (λk e=>⟨jQ _,lqQ (hM k e).2 hm⟩)
theorem dO.past{α:Type}{R:aDQ α}{sz n cb:Nat}{w w':World}{v:Value}{xs:List α}(h:dO R sz 0 n w v xs)(hk:dR R)(hs:ia R)(hm:ef R)(hc:cb<n)(ht:Turned cb w w'):SlR R sz w' w'.heap.size v xs:=
 ajX h hk hs hm ⟨jQ _,hc⟩ ht
theorem dO.nil{α:Type}(R:aDQ α)(sz n:Nat)(w:World):dO R sz 0 n w (.slice none 0 0) []:=λ_ _=>bBZ _ _ _ _
theorem dO.form{α:Type}{R:aDQ α}{sz n:Nat}{w:World}{v:Value}{xs:List α}(h:dO R sz 0 n w v xs):∃ A c,v = .slice A xs.length c:=by
 obtain⟨A,c,rfl,_⟩:=ba (h (λ_=>False) (λ_ e=>e.elim));exact⟨_,_,rfl⟩
theorem E7{w w':World}{n:Nat}(l:List Value)(T:TypeId)(hn:w.heap.size=n)(he:w'=w.alloc (.cells l.toArray T)):fm w' n 0 l:=by subst hn;subst he;exact amQ w l T
structure OneAt(n:Nat)(w:World)(b:Nat)(l:List Value):Prop where
 lo:n<=b
 hi:b<w.heap.size
 cells:fm w b 0 l
theorem OneAt.keep{n:Nat}{w w':World}{b:Nat}{l:List Value}(h:OneAt n w b l)(hb:Below w.heap.size w w'):OneAt n w' b l:=⟨h.lo,lqQ h.hi hb.size,h.cells.keep hb h.hi⟩
def mr(w:World)(X:Nat)(L:List Value):Prop:=∀ i v,L[i]?=some v->w.cell? ⟨X,i,none⟩=some v
theorem mr.keep{w w':World}{X B:Nat}{L:List Value}(h:mr w X L)(hb:Below B w w')(hX:X<B):mr w' X L:=λi v hi=>(hb.cell (p:=⟨X,i,none⟩) hX).trans (h i v hi)
theorem jf{w w':World}{X:Nat}(l:List Value)(T:TypeId)(hn:w.heap.size=X)(he:w.alloc (.cells l.toArray T)=w'):mr w' X l:=λi v hi=>by
 have:=E7 l T hn he.symm i v hi
 rwa [Nat.zero_add] at this
end
section
open Go.RowKit Go.Shelf
attribute [local go_sem] Oper.semAt_some
attribute [local go_sem] CV.cells
end
section
open Go.RowKit Go.Shelf
attribute [local go_sem] Oper.semAt_some
theorem atX:∀ args w,(callFunc 208 args).run prog w = .ok (.enter 208 args) w:=enters_of func208 (by kernel_rfl) rfl
end
section
open Go.RowKit Go.Shelf
attribute [local go_sem] Oper.semAt_some
def Np.q9(xs:List Np.Signed)(i:Nat):List UInt8:=((xs[i]?).map (·.set.name)).getD []
def Np.upP(xs:List Np.Signed)(nm:List UInt8)(i:Nat):Bool:=decide (0<Np.br (Np.q9 xs i) nm)
def Np.mG(k j:Nat):List Int:=(List.range j).map λ(i:Nat)=>(k:Int) - 1 - i
theorem Np.Qx(k j:Nat):Np.mG k (j+1)=Np.mG k j ++ [(k:Int) - 1 - j]:=by simp[Np.mG,List.range_succ]
theorem Np.asK(k j:Nat)(h:j<=k):Np.mG k j <+: Np.mG k k:=by
 obtain⟨d,rfl⟩:∃ d,k=j+d:=⟨k - j,by omega⟩;unfold Np.mG;rw[List.range_add,List.map_append];exact List.prefix_append _ _
def uE(w:World)(D:Nat->Prop)(A:Option Addr)(n:Nat)(xs:List Np.Signed):Prop:=∀ i,i<n->∃ (b o:Nat) (s:ByteArray) (ty:Int),A=some ⟨b,o,none⟩/\D b/\s.data.toList=Np.q9 xs i/\s.size<=140737488355328/\Np.ai s.data.toList=true/\w.cell? ⟨b,o+i * 5,none⟩=some (.string s)/\w.cell? ⟨b,o+i * 5+1,none⟩=some (.int .i64 ty)
theorem T2{w:World}{B n c:Nat}{A:Option Addr}{xs:List Np.Signed}(hv:∀ x∈xs,Np.ai x.set.name=true)(hn:xs.length=n)(hx:SlR az 5 w B (.slice A n c) xs){D:Nat->Prop}(hD:∀ k,k<B->D k):uE w D A n xs:=λi hi=>by
 obtain⟨x,fx⟩:∃ x,xs[i]?=some x:=⟨_,aQ (by omega)⟩;obtain⟨b,o,c',s,dv,sv,hA,cO,_,aP,dM,_,_,e0,e1,_,_,_⟩:=dN hx fx;simp only[Value.slice.injEq] at hA;obtain⟨rfl,-,rfl⟩:=hA;exact⟨b,o,s,_,rfl,hD b cO,by rw[aP];unfold Np.q9;rw[fx];rfl,dM,by rw[aP];exact hv x (gQ fx),e0,e1⟩
theorem uE.keeps{w W:World}{D:Nat->Prop}{A:Option Addr}{n:Nat}{xs:List Np.Signed}(h:uE w D A n xs)(hk:dI D w W):uE W D A n xs:=λi hi=>by
 obtain⟨b,o,s,ty,h1,h2,h3,h4,h5,h6,h7⟩:=h i hi;exact⟨b,o,s,ty,h1,h2,h3,h4,h5,(hk.cell (p:=⟨b,o+i * 5,none⟩) h2).trans h6,(hk.cell (p:=⟨b,o+i * 5+1,none⟩) h2).trans h7⟩
theorem bHZ(D:Nat->Prop)(A:Option Addr)(n c:Nat)(xs:List Np.Signed)(nm:ByteArray)(hs:nm.size<=140737488355328)(vn:Np.ai nm.data.toList=true)(V bv bn i:Nat)(hi:i<n)(w:World)
 (hx:uE w D A n xs) (h1:w.cell? ⟨V,1,none⟩=some (.slice A n c)) (h2:w.cell? ⟨bv,0,none⟩=some (.pointer (some ⟨V,0,none⟩))) (h3:w.cell? ⟨bn,0,none⟩=some (.string nm)) :
 Calls prog 259 #[.int .i64 i,.pointer (some ⟨bv,0,none⟩),.pointer (some ⟨bn,0,none⟩)] w (aCX w.heap.size w (.bool (Np.upP xs nm.data.toList i))):=by
 obtain⟨b,o,s,ty,rfl,_,aP,dM,v1,e0,_⟩:=hx i hi;have KV:Np.upP xs nm.data.toList i=decide (0<Np.br s.data.toList nm.data.toList):=by unfold Np.upP;rw[aP]
 obtain⟨pp,SC⟩:=aaK (Np.upP xs nm.data.toList i);rw[SC] at KV |-;have HP:=jq KV;have VN:=jq vn;have V1:=jq v1;have HS:=jq (And.intro hs dM);have iO:(0:Int)<=(i:Int):=by omega
 have mP:(i:Int)<(n:Int):=by omega
 clear aP hx vn v1 hs dM KV SC;go_enter func259,ntmps259;go_upto_region 1 with fail
 go_region_with (go_at_call 209;refine (TS s nm HS.out.2 HS.out.1 V1.out VN.out w.drew).mono ?_;rintro e w2 ⟨rfl,hb⟩;have am:Hid (Below w.heap.size w w2):=jq ((vQ w.heap.size w).drew.trans hb);clear hb)
 all_goals
  go_wp2_with fail;go_ret;exact⟨by rw[HP.out];rfl,am.out⟩
theorem awK:∀ args w,(callFunc 259 args).run prog w = .ok (.enter 259 args) w:=enters_of func259 (by kernel_rfl) rfl
def agZ(k:Nat)(J:List Int->(Nat->Prop)->World->Prop)(S:Nat->Prop)(W:World)(v:Value)(wr:World):Prop:=
 ∃ (j:Nat) (S1:Nat->Prop),v = .int .i64 ((k:Int) - 1 - j)/\j<=k/\J (Np.mG k j) S1 wr/\(∀ i,S1 i->i<wr.heap.size)/\(∀ i,S1 i->S i\/W.heap.size<=i)/\W.heap.size<=wr.heap.size
theorem bHK(D:Nat->Prop)(A:Option Addr)(n c:Nat)(xs:List Np.Signed)(oz:n<=100000)(nm:ByteArray)(hs:nm.size<=140737488355328)(vn:Np.ai nm.data.toList=true)(V bv bn:Nat)(w:World)(hV:D V)(eF:D bv)(eU:D bn)
 (hx:uE w D A n xs) (h1:w.cell? ⟨V,1,none⟩=some (.slice A n c)) (h2:w.cell? ⟨bv,0,none⟩=some (.pointer (some ⟨V,0,none⟩))) (h3:w.cell? ⟨bn,0,none⟩=some (.string nm)) :
 Jn prog 258 (λy=>#[y,.pointer (some ⟨bv,0,none⟩),.pointer (some ⟨bn,0,none⟩)]) (λx:Int=>#[.int .i64 x]) (Np.mG (Np.gX (Np.upP xs nm.data.toList) 0 n) (Np.gX (Np.upP xs nm.data.toList) 0 n)) D w:=by
 intro l J Jx S W hW hJ J5 hY hS hS' h0;have HX:=jq hx;have VN:=jq vn;have HS:=jq hs;have Ik:=jq h1;have Xo:=jq h2;have Xp:=jq h3;have HW:=jq hW;have Rz:=hW.1;have k1:=(hW.cell (p:=⟨V,1,none⟩) hV).trans h1;have k2:=(hW.cell (p:=⟨bv,0,none⟩) eF).trans h2;obtain⟨k,hk⟩:=aaK (Np.gX (Np.upP xs nm.data.toList) 0 n);have HK:=jq hk;have kY:k<=n:=by rw[<-hk];exact Np.DQ _ n 0 n (by omega) (by omega)
 rw[hk] at hY |-;clear hx vn hs h1 h2 h3 hW hk;refine callsIn_of_wp func258 rfl trivial ?_ rfl;simp only[ntmps258,List.size_toArray,List.length_cons,List.length_nil,Nat.reduceAdd,Nat.reduceSub,Array.replicate_succ,Array.replicate_zero,List.push_toArray,List.append_toArray,List.nil_append,List.cons_append];gi_wp2_with fail;refine⟨trivial,rfl,(callsIn_wide.2 (UM (Np.upP xs nm.data.toList) 259 #[.pointer (some ⟨bv,0,none⟩),.pointer (some ⟨bn,0,none⟩)] n (by omega) W awK (λi w' hi hb=>?_))).mono ?_⟩
 ·have rK:dI D w w':=HW.out.of_below hb
  have:=bHZ D A n c xs nm HS.out VN.out V bv bn i hi w' (HX.out.keeps rK) ((rK.cell (p:=⟨V,1,none⟩) hV).trans Ik.out) ((rK.cell (p:=⟨bv,0,none⟩) eF).trans Xo.out) ((rK.cell (p:=⟨bn,0,none⟩) eU).trans Xp.out)
  simpa using this
 rw[HK.out];rintro e W2 ⟨rfl,ae⟩;have bL:=ae.size;have Fs:=hJ _ _ _ _ h0 ⟨ae.os,ae.tape,ae.output,ae.size,λq hq _=>ae.block q hq⟩;clear ae k1 k2 h0;gi_wp2_with fail;gi_loopw [5] (λv wr=>agZ k J S W v wr) (λv _=>(intOf v+1).toNat)
 case atStart=>
  exact⟨0,S,by simp,jQ _,Fs,λi e=>by have:=hS' i e;omega,λ_ e=>.inl e,bL⟩
 case round=>
  obtain⟨j,S1,rfl,hj,tl,eH,bJ,xV⟩:=hrel;by_cases ag:j<k
  ·have h5:(0:Int)<=(k:Int) - 1 - j:=by omega
   have bW:Np.mG k j ++ [(k:Int) - 1 - j] <+: Np.mG k k:=by rw[<-Np.Qx];exact Np.asK k (j+1) (by omega)
   obtain⟨fn,tmps,assign,body,hy,hR⟩:=hY (Np.mG k j) ((k:Int) - 1 - j) S1 wr bW tl eH xV;have HP:=jq bW;clear bW;obtain⟨q,hq⟩:=aaK ((k:Int) - 1 - j);rw[hq] at hR h5
   try rw[hq] at hy
   have hy':=hy
   try simp only[hq] at hy'
   have HQ:=jq hq;have au:q<=100000:=by omega
   simp only[hq];clear hq;gi_wp2_with fail;refine⟨rfl,hR.mono ?_⟩;rintro e W3 ⟨S3,cp,kl,ma,(⟨rfl,qo⟩ | ⟨rfl,qr⟩)⟩
   ·have mh:=cp.size;gi_wp2_with fail;go_roundw
    case rel=>
     refine⟨j+1,S3,?_,by omega,?_,ma,λi e=>?_,by omega⟩
     ·have:=HQ.out;simp;omega
     ·rw[Np.Qx,HQ.out];exact qo
     ·rcases kl _ e with e | e
      ·exact bJ _ e
      ·right;omega
    case measure=>simp[intOf]<;>omega
   ·gi_wp2_with fail;refine bodyPost_ret (results_none rfl _ _ _) rfl ?_;refine⟨⟨_,rfl⟩,.inr ⟨_,S3,(show Np.mG k j ++ [q] <+: Np.mG k k by rw[<-HQ.out];exact HP.out),qr,λi e=>?_⟩⟩;rcases kl _ e with e | e
    ·exact bJ _ e
    ·right;omega
  ·obtain rfl:j=k:=by omega
   have h5:¬ (0:Int)<=(j:Int) - 1 - j:=by omega
   gi_wp2_with fail;go_end0;exact⟨⟨_,rfl⟩,.inl ⟨S1,tl,bJ⟩⟩
end
section
open Go.RowKit Go.Shelf
attribute [local go_sem] Oper.semAt_some
theorem bAY{α:Type}{R:aDQ α}{sz:Nat}{w:World}{B:Nat}{v:Value}{xs:List α}(h:SlR R sz w B v xs):∃ A c,v = .slice A xs.length c/\xs.length<=c/\xs.length<=140737488355328:=by
 obtain⟨A,c,h1,h2,h3,_⟩:=h;exact⟨A,c,h1,h2,h3⟩
theorem yj{α:Type}{R:aDQ α}{sz:Nat}{w:World}{B:Nat}{v:Value}{xs:List α}(h:SlR R sz w B v xs):∃ A n c,v = .slice A n c/\xs.length=n/\n<=c/\n<=140737488355328:=by
 obtain⟨A,c,h1,h2,h3⟩:=bAY h;exact⟨A,_,c,h1,rfl,h2,h3⟩
end
section
open Go.RowKit Go.Shelf
attribute [local go_sem] Oper.semAt_some
end
section
open Go.RowKit Go.Shelf
attribute [local go_sem] Oper.semAt_some
theorem bHJ(nm:ByteArray)(V:Nat)(w:World) :
 Calls prog 210 #[.pointer (some ⟨V,0,none⟩),.string nm] w λe w'=>∃ g:Nat,e = .returned (.func (.func 258) #[] #[.pointer (some ⟨g,0,none⟩),.pointer (some ⟨g+1,0,none⟩)])/\w.heap.size<=g/\g+1<w'.heap.size/\mr w' g [.pointer (some ⟨V,0,none⟩)]/\mr w' (g+1) [.string nm]/\Below w.heap.size w w':=by
 obtain⟨wa,bo⟩:=aaK (w.alloc (.cells #[.pointer (some ⟨V,0,none⟩)] 117));obtain⟨wb,eP⟩:=aaK (wa.alloc (.cells #[.string nm] 9));have jK:wa.heap.size=w.heap.size+1:=by rw[<-bo];simp
 have xY:wb.heap.size=w.heap.size+2:=by rw[<-eP];simp[jK]
 have dE:Below w.heap.size w wa:=by rw[<-bo];exact blAl
 have eE:Below wa.heap.size wa wb:=by rw[<-eP];exact blAl
 have HB:=jq (dE.trans (eE.abQ));have cN:=jq ((jf [.pointer (some ⟨V,0,none⟩)] 117 rfl bo).keep eE (by omega));have dH:=jq (jf [.string nm] 9 jK eP);clear dE eE;go_enter func210,ntmps210;go_wp2_with fail;go_ret;exact⟨w.heap.size,rfl,bQ _,by omega,cN.out,dH.out,HB.out⟩
def MJ(w2:World)(b:Nat)(_:List Int)(S:Nat->Prop)(W:World):Prop:=(∀ k,S k↔k=b)/\Boxed W b 3 (.int .i64 0)/\Below b w2 W
theorem Ql{w2:World}{b B:Nat}(hb:b<=B)(hw:b<=w2.heap.size):iy B (MJ w2 b):=by
 rintro s S W W' ⟨hS,h1,h2⟩ aH;exact⟨hS,lS h1 aH ((hS _).2 rfl),uI h2 aH hb hw⟩
end
section
open Go.RowKit Go.Shelf
attribute [local go_sem] Oper.semAt_some
def MI(xs:List Np.Signed)(w2:World)(b n:Nat)(c:Code)(_:List Int)(S:Nat->Prop)(W:World):Prop:=c = .ret/\(∀ k,S k↔k=b)/\(∃ q:Int,0<=q/\q<n/\Np.je xs q (λx=>x.set.type=8)/\Boxed W b 3 (.int .i64 q))/\Below b w2 W
theorem aoY{xs:List Np.Signed}{w2:World}{b n B:Nat}(hb:b<=B)(hw:b<=w2.heap.size)(c:Code):iy B (MI xs w2 b n c):=by
 rintro s S W W' ⟨hc,hS,⟨q,h0,h1,h8,h2⟩,h3⟩ aH;exact⟨hc,hS,⟨q,h0,h1,h8,lS h2 aH ((hS _).2 rfl)⟩,uI h3 aH hb hw⟩
theorem apQ(A:Option Addr)(n c:Nat)(xs:List Np.Signed)(hv:∀ x∈xs,Np.ai x.set.name=true)(oz:n<=100000)(nm:ByteArray)(hs:nm.size<=140737488355328)(vn:Np.ai nm.data.toList=true)(V:Nat)(hn:xs.length=n)(w:World)(hV:V<w.heap.size)
 (hx:SlR az 5 w w.heap.size (.slice A n c) xs) (h1:w.cell? ⟨V,1,none⟩=some (.slice A n c)) :
 Calls prog 146 #[.pointer (some ⟨V,0,none⟩),.string nm] w λe w'=>∃ q:Int,-1<=q/\q<n/\Np.je xs q (λx=>x.set.type=8)/\e = .returned (.int .i64 q)/\Below w.heap.size w w':=by
 have HX:=jq hx;have eN:=jq hv;have HN:=jq hn;have VN:=jq vn;have HS:=jq hs;have H1:=jq h1;obtain⟨G,hG⟩:=aaK w.heap.size;obtain⟨wa,bo⟩:=aaK (w.alloc (.cells #[.pointer (some ⟨V,0,none⟩)] 117));have jK:wa.heap.size=G+1:=by rw[<-bo];simp[hG]
 have dE:Below w.heap.size w wa:=by rw[<-bo];exact blAl
 obtain⟨wb,eP⟩:=aaK (wa.alloc (.cells #[.int .i64 0] 3));have xY:wb.heap.size=G+2:=by rw[<-eP];simp[jK]
 have eE:Below wa.heap.size wa wb:=by rw[<-eP];exact blAl
 have HB:=jq (dE.trans (eE.abQ));have HC:=jq ((jf [.pointer (some ⟨V,0,none⟩)] 117 hG bo).keep eE (by omega));have g8:Hid (Boxed wb (G+1) 3 (.int .i64 0)):=jq (by
  have:=Boxed.new wa 3 (.int .i64 0)
  rw[jK,eP] at this;exact this)
 have k0:=HC.out 0 _ rfl;clear hx hv hn vn hs dE eE h1;refine (callsIn_wide (n:=0)).1 ?_;refine callsIn_of_wp_marks func146 rfl trivial ?_ rfl;simp only[ntmps146,List.size_toArray,List.length_cons,List.length_nil,Nat.reduceAdd,Nat.reduceSub,Array.replicate_succ,Array.replicate_zero,List.push_toArray,List.append_toArray,List.nil_append,List.cons_append];gi_wp2_with fail;refine⟨trivial,rfl,?_⟩;refine (callsIn_wide.2 (bHJ nm V wb)).mono ?_;rintro e w2 ⟨g,rfl,hg,fo,aR,cH,ae⟩;have bL:=ae.size;have am:=jq (HB.out.trans (ae.mono HB.out.size));have Wn:=jq (adX g8.out ae);have cN:=jq aR;have dH:=jq cH;have KR:=HC.out.keep ae (by omega);have Yh:=jq KR;clear aR cH ae k0 bo eP KR;gi_wp2_with fail;obtain⟨D,hD⟩:∃ D:Nat->Prop,(λk=>k<w2.heap.size/\k≠G+1)=D:=⟨_,rfl⟩;have HD:Hid (∀ k,D k↔k<w2.heap.size/\k≠G+1):=jq (λk=>by rw[<-hD]);clear hD;have IC:Hid (uE w2 D A n xs):=jq (T2 eN.out HN.out (HX.out.keep ax am.out) (λq hq=>(HD.out q).2 ⟨by omega,by omega⟩));have X7:Hid (uE w2 (λq=>q<G) A n xs):=jq (T2 eN.out HN.out (HX.out.keep ax am.out) (λq hq=>by omega));have Iv:Hid (∀ x∈Np.mG (Np.gX (Np.upP xs nm.data.toList) 0 n) (Np.gX (Np.upP xs nm.data.toList) 0 n),0<=x/\x<n):=jq (λx hx=>by
  have kZ:=Np.DQ (Np.upP xs nm.data.toList) n 0 n (by omega) (by omega);unfold Np.mG at hx;simp only[List.mem_map,List.mem_range] at hx;obtain⟨i,hi,rfl⟩:=hx;omega)
 refine bQZ (Dr:=D) (w0:=w2) (first:=#[]) (captured:=#[.pointer (some ⟨g,0,none⟩),.pointer (some ⟨g+1,0,none⟩)]) (gf:=258) rfl (enters_of func258 (by kernel_rfl) rfl) (mk:=λy=>#[y,.pointer (some ⟨g,0,none⟩),.pointer (some ⟨g+1,0,none⟩)]) (λ_=>rfl)
  (bHK D A n c xs oz nm HS.out VN.out V g (g+1) w2 ((HD.out _).2 ⟨by omega,by omega⟩) ((HD.out _).2 ⟨by omega,by omega⟩) ((HD.out _).2 ⟨by omega,by omega⟩) IC.out ((am.out.cell (p:=⟨V,1,none⟩) hV).trans H1.out) (cN.out 0 _ rfl) (dH.out 0 _ rfl))
  (dI.refl (λq e=>((HD.out q).1 e).1)) (λ_=>rfl) (MJ w2 (G+1)) (MI xs w2 (G+1) n) (Ql (by omega) (by omega)) (λc=>aoY (by omega) (by omega) c)
  (λk=>k=G+1) (λk e h=>((HD.out k).1 h).2 e) (λk e=>by omega) ⟨λ_=>Iff.rfl,Wn.out,vQ _ _⟩ ?round ?done ?stop
 case round=>
  rintro l0 pre x S W bW hI fG;gi_wp2;refine⟨S,RdStep.refl _ _,λk e=>.inl e,fG,?_⟩;intro l W₂ aH;obtain⟨hS,c0,hB⟩:=Ql (b:=G+1) (w2:=w2) (by omega) (by omega) pre S W W₂ hI aH;obtain⟨gK,fM⟩:=Iv.out x (bW.subset (by simp));obtain⟨i,rfl⟩:∃ i:Nat,x=(i:Int):=⟨x.toNat,by omega⟩;obtain⟨b,o,s,ty,rfl,hbG,_,_,_,_,e1⟩:=X7.out i (by omega);obtain⟨x,fx⟩:∃ x,xs[i]?=some x:=⟨_,aQ (by rw[HN.out];omega)⟩;obtain⟨b',o',_,_,_,_,hA',_,_,_,_,_,_,_,e1',_⟩:=dN (HX.out.keep ax am.out) fx;simp only[Value.slice.injEq,Option.some.injEq,Addr.mk.injEq] at hA';obtain⟨⟨rfl,rfl,-⟩,-,-⟩:=hA';rw[e1'] at e1;simp only[Option.some.injEq,Value.int.injEq] at e1;obtain⟨-,bm⟩:=e1;have fj:Hid (ty=8->Np.je xs (i:Int) λx=>x.set.type=8):=jq (λh8 _ y hy=>by
   have e:xs[i]?=some y:=by simpa using hy
   rw[fx] at e
   cases e
   exact bm.trans h8)
  rw[bm] at e1';have e1:=e1';clear e1' fx bm;have k0:=aaQ hB (Yh.out 0 _ rfl);have k1:=aaQ hB ((am.out.cell (p:=⟨V,1,none⟩) hV).trans H1.out);have k2:=aaQ hB e1;have c0c:=c0.cell;have c0f:=c0.frozen;have lB:=jq c0;have ed:=jq hB;have nz:∀ k,S k->k<W₂.heap.size:=λk e=>lqQ (fG k e) aH.size;clear hI aH e1 c0 hB bW;by_cases h8:ty=8
  ·have yX:=jq (fj.out h8);have h8b:(ty == 8)=true:=by simpa using h8
   gi_wp2_with fail;refine⟨S,(RdStep.refl S W₂).setCell (p:=⟨G+1,0,none⟩) (.inl ((hS _).2 rfl)) _,λ_ e=>.inl e,λq e=>by have:=nz q e;simp[World.setCell];omega,rfl,hS,⟨i,by omega,by omega,yX.out,lB.out.set _⟩,ed.out.blSe _⟩
  ·have h8b:(ty == 8)=false:=by simpa using h8
   gi_wp2_with fail;refine⟨S,RdStep.refl S W₂,λ_ e=>.inl e,nz,hS,lB.out,ed.out⟩
 case done=>
  rintro D2 S W hD gq bJ ⟨hS,c0,hB⟩ hK;have tk:G+1≠D2:=λe=>gq ((hS _).2 e.symm);have c0c:=c0.cell;have c0f:=c0.frozen;have lB:=jq c0;have bN:=aaZ am hB;have Ck:(W.setCell ⟨G+1,0,none⟩ (.int .i64 (-1))).heap[D2]?=some (.deferred (some [])):=(wQ _ _ _ _ (λe=>tk e.symm)).trans hK;have gL:=jq Ck;clear c0 hB hK Ck;gi_wp2_with fail;have d0:=(th (lB.out.set (.int .i64 (-1))) tk (.deferred none)).cell;exact pb gL.out (v:=.int .i64 (-1)) (by simp[results,results146,go_sem,d0]) ⟨-1,by omega,by omega,Np.GI (by omega),rfl,o7 (bN.out.blSe _) (by omega) _⟩
 case stop=>
  rintro D2 cc pre S W hD gq bJ mf ⟨rfl,hS,⟨q,h0,h1,h8,c0⟩,hB⟩ hK;have tk:G+1≠D2:=λe=>gq ((hS _).2 e.symm);have bN:=aaZ am hB;have gL:=jq hK;have H8:=jq h8;clear hB hK h8;gi_wp2_with fail;have d0:=(th c0 tk (.deferred none)).cell;exact pb gL.out (v:=.int .i64 q) (by simp[results,results146,go_sem,d0]) ⟨q,by omega,h1,H8.out,rfl,o7 bN.out (by omega) _⟩
end
section
open Go.RowKit Go.Shelf
attribute [local go_sem] Oper.semAt_some
def Np.geP(xs:List Np.Signed)(nm:List UInt8)(i:Nat):Bool:=decide (0<=Np.br (Np.q9 xs i) nm)
def Np.exN(xs:List Np.Signed)(nm:List UInt8):Bool:=decide (Np.gX (Np.geP xs nm) 0 xs.length<xs.length)&&Np.aW (Np.q9 xs (Np.gX (Np.geP xs nm) 0 xs.length)) nm
theorem Np.U1(p:Nat->Bool):∀ (k j:Nat),j<=k->(∀ i,i<j->p i=true)->Np.gX p 0 j=0
 | 0,j,h,_=>by rw[Np.DP p (by omega)]
 | k+1,j,h,hp=>by
   by_cases hj:0<j
   ·rw[Np.GX p hj,QbQ (hp _ (by omega))];exact Np.U1 p k _ (by omega) λi hi=>hp i (by omega)
   ·rw[Np.DP p (by omega)]
theorem Np.awY{xs:List Np.Signed}{ap:List UInt8}(ha:ap≠[])(hne:xs≠[])(hu:∀ x∈xs,Np.aW x.set.name ap=true):Np.exN xs ap=true:=by
 have hat:∀ i,i<xs.length->Np.aW (Np.q9 xs i) ap=true:=λi hi=>by
  unfold Np.q9;rw[aQ hi];exact hu _ (List.getElem_mem hi)
 have h0:Np.gX (Np.geP xs ap) 0 xs.length=0:=Np.U1 _ _ _ (bQ _) λi hi=>by
  have h1:=Np.DT ha (hat i hi);unfold Np.geP;rw[Qa];by_cases h2:Np.br (Np.q9 xs i) ap<0
  ·have:=Np.oN.anti _ _ h2
   omega
  ·omega
 have hl:0<xs.length:=List.length_pos_iff.2 hne;unfold Np.exN;rw[h0,hat 0 hl,uQ hl];rfl
theorem axK(A:Option Addr)(n c:Nat)(xs:List Np.Signed)(hv:∀ x∈xs,Np.ai x.set.name=true)(nm:ByteArray)(hs:nm.size<=140737488355328)(vn:Np.ai nm.data.toList=true)(V bv bn i:Nat)(hi:i<n)(hn:xs.length=n)(w:World)
 (hx:SlR az 5 w w.heap.size (.slice A n c) xs) (h1:w.cell? ⟨V,1,none⟩=some (.slice A n c)) (h2:w.cell? ⟨bv,0,none⟩=some (.pointer (some ⟨V,0,none⟩))) (h3:w.cell? ⟨bn,0,none⟩=some (.string nm)) :
 Calls prog 208 #[.int .i64 i,.pointer (some ⟨bv,0,none⟩),.pointer (some ⟨bn,0,none⟩)] w (aCX w.heap.size w (.bool (Np.geP xs nm.data.toList i))):=by
 obtain⟨x,fx⟩:∃ x,xs[i]?=some x:=⟨_,aQ (by omega)⟩;obtain⟨b,o,c',s,dv,sv,hA,cO,_,aP,dM,_,_,e0,_,_,_,_⟩:=dN hx fx;simp only[Value.slice.injEq] at hA;obtain⟨rfl,-,rfl⟩:=hA;have v1:Np.ai s.data.toList=true:=by rw[aP];exact hv x (gQ fx)
 have VN:=jq vn;have V1:=jq v1;have HS:=jq (And.intro hs dM);have iO:(0:Int)<=(i:Int):=by omega
 have mP:(i:Int)<(n:Int):=by omega
 obtain⟨cv,hcv⟩:=aaK (Np.br s.data.toList nm.data.toList);have HG:Hid (Np.geP xs nm.data.toList i=decide (0<=cv)):=jq (by unfold Np.geP Np.q9;rw[fx];show decide (0<=Np.br x.set.name _)=_;rw[<-aP,hcv]);have um:=jq hcv;clear fx aP hv hx vn v1 hs dM hcv;have xw:(0<=cv/\decide (0<=cv)=true)\/(¬ 0<=cv/\decide (0<=cv)=false):=by
  by_cases h:0<=cv
  ·exact .inl ⟨h,uQ h⟩
  ·exact .inr ⟨h,tQ h⟩
 rcases xw with ⟨h0,hd⟩ | ⟨h0,hd⟩
 all_goals
  go_enter func208,ntmps208;go_upto_region 1 with fail
  go_region_with (go_at_call 209;refine (TS s nm HS.out.2 HS.out.1 V1.out VN.out w.drew).mono ?_;rw[um.out];rintro e w2 ⟨rfl,hb⟩;have am:Hid (Below w.heap.size w w2):=jq ((vQ w.heap.size w).drew.trans hb);clear hb)
  all_goals
   go_wp2_with fail;go_ret;exact⟨by first | (rw[HG.out];rfl) | (rw[HG.out,hd];rfl),am.out⟩
theorem axX(A:Option Addr)(n c:Nat)(xs:List Np.Signed)(hv:∀ x∈xs,Np.ai x.set.name=true)(oz:n<=100000)(nm:ByteArray)(hs:nm.size<=140737488355328)(vn:Np.ai nm.data.toList=true)(V:Nat)(hn:xs.length=n)(w:World)(hV:V<w.heap.size)
 (hx:SlR az 5 w w.heap.size (.slice A n c) xs) (h1:w.cell? ⟨V,1,none⟩=some (.slice A n c)) :
 Calls prog 144 #[.pointer (some ⟨V,0,none⟩),.string nm] w λe w'=>e = .returned (.bool (Np.exN xs nm.data.toList))/\Below w.heap.size w w':=by
 have HX:=jq hx;have eN:=jq hv;have HN:=jq hn;have VN:=jq vn;have HS:=jq hs;obtain⟨G,hG⟩:=aaK w.heap.size;obtain⟨wa,bo⟩:=aaK (w.alloc (.cells #[.pointer (some ⟨V,0,none⟩)] 117));obtain⟨wb,eP⟩:=aaK (wa.alloc (.cells #[.string nm] 9));have jK:wa.heap.size=G+1:=by rw[<-bo];simp[hG]
 have xY:wb.heap.size=G+2:=by rw[<-eP];simp[jK]
 have dE:Below w.heap.size w wa:=by rw[<-bo];exact blAl
 have eE:Below wa.heap.size wa wb:=by rw[<-eP];exact blAl
 have Lq:Below w.heap.size w wb:=dE.trans (eE.abQ);have dH:=jq ((jf [.pointer (some ⟨V,0,none⟩)] 117 hG bo).keep eE (by omega));have gj:=jq (jf [.string nm] 9 jK eP);have HB:=jq Lq;have H1:=jq h1;have k2:=dH.out 0 _ rfl;have k3:=gj.out 0 _ rfl;have k1:wb.cell? ⟨V,1,none⟩=some (.slice A n c):=(Lq.cell (p:=⟨V,1,none⟩) hV).trans h1;clear hx hv hn vn hs dE eE Lq h1;go_enter func144,ntmps144;go_wp2_with fail;clear bo eP k1 k2 k3;refine (UM (Np.geP xs nm.data.toList) 208 #[.pointer (some ⟨G,0,none⟩),.pointer (some ⟨G+1,0,none⟩)] n (by omega) wb atX (λi w' hi hb=>?_)).mono ?_
 ·have rK:=HB.out.trans (hb.mono HB.out.size)
  have:=axK A n c xs eN.out nm HS.out VN.out V G (G+1) i hi HN.out w' (HX.out.later ax aK rK) ((rK.cell (p:=⟨V,1,none⟩) hV).trans H1.out) (dH.out.keep hb (by omega) 0 _ rfl) (gj.out.keep hb (by omega) 0 _ rfl)
  simpa using this
 have hile:=Np.DQ (Np.geP xs nm.data.toList) n 0 n (by omega) (by omega);have yJ:Hid (Np.exN xs nm.data.toList=(decide (Np.gX (Np.geP xs nm.data.toList) 0 n<n)&&Np.aW (Np.q9 xs (Np.gX (Np.geP xs nm.data.toList) 0 n)) nm.data.toList)):=jq (by unfold Np.exN;rw[HN.out]);obtain⟨i,hi⟩:=aaK (Np.gX (Np.geP xs nm.data.toList) 0 n);rw[hi] at yJ hile |-;clear hi;rintro e w4 ⟨rfl,aE⟩;have pw:=aE.size;have aX:=jq (HB.out.trans (aE.mono HB.out.size));have k1:w4.cell? ⟨V,1,none⟩=some (.slice A n c):=(aX.out.cell (p:=⟨V,1,none⟩) hV).trans H1.out;have k2:=dH.out.keep aE (by omega) 0 _ rfl;have k3:=gj.out.keep aE (by omega) 0 _ rfl;clear aE;by_cases ag:i<n
 ·obtain⟨x,fx⟩:∃ x,xs[i]?=some x:=⟨_,aQ (by rw[HN.out];exact ag)⟩;obtain⟨b,o,c',s,dv,sv,hA,cO,_,aP,dM,_,_,e0,_,_,_,_⟩:=dN (HX.out.later ax aK aX.out) fx;simp only[Value.slice.injEq] at hA;obtain⟨rfl,-,rfl⟩:=hA;have V1:Hid (Np.ai s.data.toList=true):=jq (by rw[aP];exact eN.out x (gQ fx));have I2:=jq dM;have hd:decide ((i:Int)<(n:Int))=true:=adQ;have iO:(0:Int)<=(i:Int):=by omega
  have mP:(i:Int)<(n:Int):=by omega
  obtain⟨bu,xr⟩:=aaK (Np.aW s.data.toList nm.data.toList);have rn:=jq xr;have cR:Hid (Np.exN xs nm.data.toList=bu):=jq (by
   rw[yJ.out,uQ ag];unfold Np.q9;rw[fx];show (true&&Np.aW x.set.name _)=_;rw[<-aP,xr];rfl)
  clear fx aP dM ag xr;go_upto_region 2 with fail
  go_region_with (go_at_call 142;refine (TY s nm I2.out HS.out V1.out VN.out w4.drew).mono ?_;rw[rn.out];rintro e w5 ⟨rfl,hb⟩;have bx:Hid (Below w.heap.size w w5):=jq (aX.out.drew.trans (hb.mono aX.out.size));clear hb)
  all_goals
   go_wp2_with fail;go_ret;exact⟨by rw[cR.out];first | rfl | (cases bu<;>rfl),bx.out⟩
 ·have hd:decide ((i:Int)<(n:Int))=false:=acY;have mP:¬ (i:Int)<(n:Int):=by omega
  have iN:decide (i<n)=false:=tQ ag;have cR:Hid (Np.exN xs nm.data.toList=false):=jq (by rw[yJ.out,tQ ag];rfl);clear ag;go_wp2_with fail;go_quiet (fail);go_wp2_with fail;go_ret;exact⟨by rw[cR.out];rfl,below_drewN aX.out _⟩
end
section
open Go.RowKit
theorem vl{x:List UInt8}(h:Np.ai x=true):x≠[]:=by
 rintro rfl;exact absurd h (by decide)
def SU:Value->List UInt8
 | .string s=>s.data.toList
 | _=>[]
theorem apX(a:ByteArray)(ha:a.size<=140737488355328)(A:Option Addr)(n c:Nat)(l:List Np.Signed)(hn:l.length=n)(hz:Np.VZone ⟨a.data.toList,l⟩)(s:ByteArray)(hs:s.size<=140737488355328)(hv:Np.ai s.data.toList=true)(hu:Np.aW s.data.toList a.data.toList=true)(w:World)(hR:cr w w.heap.size)(hd:SlR az 5 w w.heap.size (.slice A n c) l) :
 Calls prog 69 #[.agg #[.string a,.slice A n c],.string s] w
  λe w'=>∃ (p:ByteArray) (b:Bool),e = .returned (.tuple #[.string p,.bool b,.int .i64 0])/\p.size<=140737488355328/\(b=true->Np.ai p.data.toList=true/\p.size<=140737488355328/\Np.ig l p.data.toList 2/\Np.aW s.data.toList p.data.toList=true/\Np.aW p.data.toList a.data.toList=true/\p.data.toList≠a.data.toList)/\(s.data.toList=a.data.toList->b=false)/\Below w.heap.size w w':=by
 have HN:=jq hn;have HZ:=jq hz;have HV:=jq hv;have HU:=jq hu;have HR:=jq hR;have HD:=jq hd;have NA:Hid (Np.ai a.data.toList=true):=jq (Np.AD hz).1;have I2:=jq (Md (Np.VZone.inOrder hz.right));have eN:Hid (∀ x∈l,Np.ai x.set.name=true):=jq (λx hx=>AB ((Np.AD hz).2 x hx));have vW:Hid (l.length<=20000):=jq hz.few;have mb:n<=20000:=by rw[<-hn];exact hz.few
 clear hn hz hv hu hR hd;obtain⟨X,hX⟩:=aaK w.heap.size;obtain⟨w1,ah⟩:=aaK (w.alloc (.cells #[.string a,.slice A n c] 66));have ay:Hid (Below X w w1):=jq (by rw[<-ah,<-hX];exact blAl);have bG:X+1<=w1.heap.size:=by rw[<-ah];simp[hX]
 have uB:=jq (jf [.string a,.slice A n c] 66 hX ah);have Ng:Hid (∀ {w':World},Below X w w'->Below w.heap.size w w'):=jq (λh=>by rw[hX];exact h);have j0:=uB.out 0 _ rfl;have j1:=uB.out 1 _ rfl;go_enter func69,ntmps69;go_wp2_with fail;clear ah;refine (nameValid_any s hs _).mono ?_;rintro e w2 ⟨rfl,hb⟩;rw[HV.out];have bL:=hb.size;have am:=aaZ ay hb;have rC:=jq (uB.out.keep hb (by omega));clear hb;replace j0:=rC.out 0 _ rfl;replace j1:=rC.out 1 _ rfl;go_wp2_with fail;have hval:=bRZ a ha (.slice A n c) l vW.out w2 (by have:=HR.out.keep (by rw[hX];exact am.out);exact this.more (by omega)) (HD.out.later ax aK (by rw[hX];exact am.out));rw[Np.gY HZ.out] at hval;refine hval.mono ?_;rintro e w3 ⟨rfl,hb⟩;have mh:=hb.size;have aw:=aaZ am hb;have s9:=jq (rC.out.keep hb (by omega));clear hb hval;replace j0:=s9.out 0 _ rfl;replace j1:=s9.out 1 _ rfl;go_wp2_with fail;refine (vJ s a hs ha w3 HV.out NA.out).mono ?_;rintro e w4 ⟨rfl,hb⟩;rw[HU.out];have pw:=hb.size;have aX:=aaZ aw hb;have ir:=jq (s9.out.keep hb (by omega));clear hb;replace j0:=ir.out 0 _ rfl;replace j1:=ir.out 1 _ rfl;obtain⟨Y,hY⟩:=aaK w4.heap.size;obtain⟨w5,aS⟩:=aaK (w4.alloc (.cells #[.string a,.slice A n c] 176));have bx:Hid (Below X w w5):=jq (by rw[<-aS];exact aX.out.alloc (by omega) _);have qU:Y+1<=w5.heap.size:=by rw[<-aS];simp[hY]
 have kJ:Hid (mr w5 X [.string a,.slice A n c]):=jq (by rw[<-aS];exact ir.out.keep (blAl) (by omega));have HY5:=jq (jf [.string a,.slice A n c] 176 hY aS);have wJ:Hid (X+1<=Y):=jq (by omega);clear pw mh bL bG uB rC s9 ir ay am aw aX;have hXY:=wJ.out;go_wp2_with fail
 try rw[aS]
 try clear aS
 go_loopw [10] (λv wr=>∃ p:ByteArray,v = .string p/\p.size<=140737488355328/\Hid (Np.ai p.data.toList=true/\Np.aW p.data.toList a.data.toList=true/\(s.data.toList=a.data.toList->p.data.toList=a.data.toList)/\Np.aW s.data.toList p.data.toList=true)/\Hid (Below w5.heap.size w5 wr)) (λv _=>(Np.bC (SU v)).length)
 case atStart=>exact⟨s,rfl,hs,jq ⟨HV.out,HU.out,λh=>h,Np.Az _⟩,jq (vQ _ _)⟩
 case round=>
  obtain⟨p,rfl,xS,HP,eY⟩:=hrel;have vz:=eY.out.size;have OH:=jq (kJ.out.keep eY.out (by omega));have PF:=jq (HY5.out.keep eY.out (by omega));have bH:=jq (bx.out.trans (eY.out.mono (by have:=bx.out.size;omega)));have d0:=OH.out 0 _ rfl;have d1:=OH.out 1 _ rfl;have y0:=PF.out 0 _ rfl;have y1:=PF.out 1 _ rfl;by_cases rY:p=a
  ·have av:(!p.toList == a.toList)=false:=by simp[rY]
   clear rY;go_wp2_with fail;exact bodyPost_ret (v:=.tuple #[.string ⟨#[]⟩,.bool false,.int .i64 0]) (by simp[results,results69,go_sem]) rfl ⟨_,_,rfl,by decide,λh=>absurd h (by decide),λ_=>rfl,Ng.out bH.out⟩
  ·have il:p.data.toList≠a.data.toList:=λh=>rY (iV h);have av:(!p.toList == a.toList)=true:=by
    rw[dQ,dQ];simpa using il
   have nY:=jq il;clear il rY;have HF:=jq (JN a (.slice A n c) l vW.out eN.out I2.out p xS 2 HP.out.1 wr (HD.out.later ax aK (by rw[hX];exact bH.out)));obtain⟨b,hb⟩:=aaK (Np.yes (Np.ig l p.data.toList 2));rw[hb] at HF
   cases b with
   | true=>
    have HK:Hid (Np.ig l p.data.toList 2):=jq (Np.kw.1 hb);clear hb;go_wp2_with fail;refine HF.out.mono ?_;rintro e w7 ⟨rfl,hb⟩;have cw:=jq (bH.out.trans (hb.mono (by have:=bH.out.size;omega)));clear hb;go_wp2_with fail;exact bodyPost_ret (v:=.tuple #[.string p,.bool true,.int .i64 0]) (by simp[results,results69,go_sem]) rfl ⟨_,_,rfl,xS,λ_=>⟨HP.out.1,xS,HK.out,HP.out.2.2.2,HP.out.2.1,nY.out⟩,λh=>absurd (HP.out.2.2.1 h) nY.out,Ng.out cw.out⟩
   | false=>
    clear hb;go_wp2_with fail;refine HF.out.mono ?_;rintro e w7 ⟨rfl,hb⟩;have cw:=jq (eY.out.trans (hb.mono vz));clear hb;have mW:=Np.Ug HP.out.1 (vl NA.out) HP.out.2.1 nY.out;have jb:=jq mW;clear mW;go_wp2_with fail;refine (LV p xS HP.out.1 jb.out.1 w7).mono ?_;rintro e w8 ⟨q,rfl,hq,oC,hb⟩;have dZ:=jq (cw.out.trans (hb.mono cw.out.size));have HQ:=jq hq;clear hb hq;go_wp2_with fail;go_roundw
    case rel=>exact⟨q,rfl,oC,jq ⟨by rw[HQ.out];exact (Np.t8 HP.out.1 jb.out.1).1,by rw[HQ.out];exact jb.out.2,λh=>absurd (HP.out.2.2.1 h) nY.out,by rw[HQ.out];exact Np.DU (vl HP.out.1) (vl (Np.t8 HP.out.1 jb.out.1).1) HP.out.2.2.2 (Np.Uf HP.out.1 jb.out.1)⟩,dZ⟩
    case measure=>
     show (Np.bC q.data.toList).length<(Np.bC p.data.toList).length;rw[HQ.out];exact Np.LW HP.out.1 jb.out.1
end
end Go.Proofs.YtadhigmjilijcaaGreatDoor
