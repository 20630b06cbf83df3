/- No condition. -/
import Derived.Test.YtadhigmjilijcaaGreatDoorH21
import Derived.Test.YtadhigmjilijcaaGreatDoorH22
import Derived.Test.YtadhigmjilijcaaGreatDoorH23
import Derived.Test.YtadhigmjilijcaaGreatDoorH24
set_option linter.all false
set_option maxRecDepth 100000
set_option maxHeartbeats 8000000
namespace Go.Proofs.YtadhigmjilijcaaGreatDoor
open Go.Proofs.Tryz
section
open Go.RowKit Go.Shelf Go.MapKept
attribute [local go_sem] Oper.semAt_some CV.cells
end
section
open Go.RowKit
structure It(w:World)(e:List Value)(h:Np.Hist):Prop where
 rh:Jr w w.heap.size e h
 use:Np.Use h
 sums:Np.wR h
theorem It.keep{w w':World}{e:List Value}{h:Np.Hist}(k:It w e h)(hb:Below w.heap.size w w'):It w' e h:=
 ⟨bsJ _ _ _ _ _ (bsZ _ _ _ _ _ k.rh hb) hb.size,k.use,k.sums⟩
structure WAt(n:Nat)(w:World)(e:List Value)(x:Np.WorldP)(A1:Option Addr)(n1 c1:Nat)(A2:Option Addr)(n2 c2:Nat)(s:ByteArray)(ty lf:Int)(A3:Option Addr)(n3 c3:Nat)(A4:Option Addr)(n4 c4:Nat):Prop where
 val:e = [.slice A1 n1 c1,.slice A2 n2 c2,.string s,.int .i64 ty,.int .i64 lf,.slice A3 n3 c3,.slice A4 n4 c4]
 all:Js w w.heap.size e x
 zones:dO EZ 3 0 n w (.slice A2 n2 c2) x.zones
 len:x.zones.length=n2
theorem WAt.keep{n:Nat}{w w':World}{e:List Value}{x:Np.WorldP}{A1:Option Addr}{n1 c1:Nat}{A2:Option Addr}{n2 c2:Nat}{s:ByteArray}{ty lf:Int}{A3:Option Addr}{n3 c3:Nat}{A4:Option Addr}{n4 c4:Nat}(h:WAt n w e x A1 n1 c1 A2 n2 c2 s ty lf A3 n3 c3 A4 n4 c4)(hb:Below w.heap.size w w'):WAt n w' e x A1 n1 c1 A2 n2 c2 s ty lf A3 n3 c3 A4 n4 c4:=
 ⟨h.val,bwK _ _ _ _ _ (bwJ _ _ _ _ _ h.all hb) hb.size,h.zones.keep UA UB hb,h.len⟩
end
section
open Go.RowKit Go.Shelf
theorem bS.aroundN{α:Type}{R:aDQ α}{sz:Nat}{e:TypeId}{base:Nat}{w:World}{v:Value}{xs:List α}(h:bS R sz e base base w v xs)(hm:ef R)(hr:∀ w' r x,R w base r x->R w' base r x)(hB:base<=w.heap.size)(hl:xs.length<=140737488355328):dO R sz 0 base w v xs:=λM hM=>by
 have h1:=(h.sans (M:=M) (λk hk=>(hM k hk).2) (hr _)).slr hm (by rw[oK];exact hB) hl;rwa [oK] at h1
theorem dO.set{α:Type}{R:aDQ α}{sz n:Nat}{w:World}{v:Value}{xs:List α}(h:dO R sz 0 n w v xs)(hk:dR R)(hs:ia R)(hm:ef R){p:Addr}(hp:p.block<n)(u:Value):dO R sz 0 n (w.setCell p u) v xs:=λM hM=>by
 have h1:=h (λk=>M k\/k=p.block) (λk e=>⟨jQ _,e.elim (λe=>(hM k e).2) (λe=>e ▸ hp)⟩);exact (Leaves'.slr hk hs hm (Leaves'.setCell (λk=>M k\/k=p.block) w (.inr rfl) u) h1).sans hs (λk e=>.inl e)
theorem fD{w:World}{X:Nat}(l:List Value){T:TypeId}(h:w.heap[X]?=some (.cells l.toArray T (0,0))):mr w X l:=λi v hi=>by
 simp[World.cell?,h,hi]
theorem bQJ{P:Program}{w:World}{ops:Array Oper}{rest:List Oper}{o:Oper}{a:Act}{Q:Exit->Act->World->Prop}(kf:o.guard=none)(s x:Operand)(t:TypeId)(ho:o.op = .call { callee:=.builtin .append,args:=#[s,x],argTypes:=#[t,t] })
 (v u v':Value) (w':World) (hv:a.eval s=v) (hx:a.eval x=u) (hr:(Builtin.append_ #[t,t] o.type #[v,u]).run P w = .ok v' w') (h:wpList P ops Q rest (a.put o.dst v') w'):wpList P ops Q (o::rest) a w:=by
 refine wpList_plain kf λK hK=>?_;unfold Oper.wp execOp;simp only[ho,resolve,invoke,builtin,Sem.run_bind,Sem.run_pure,Result.andThen_ok,List.map_toArray,List.map_cons,List.map_nil,hv,hx,hr];exact hK _ _ h
def kM(ls:List Np.Signed)(nx R k:Nat)(w:World):Prop:=
 (∃ cur:Array Value,w.heap[R]?=some (.cells cur 44 (0,0))/\cur.size=15)/\∀ (j:Nat) (y:Np.Signed),j<k->ls[j]?=some y->
   ∃ (s:ByteArray) (dv gv:Value),s.data.toList=y.set.name/\s.size<=140737488355328/\(∀ (q:Nat) v,[Value.string s,.int .i64 y.set.type,.int .i64 y.set.life,dv,gv][q]?=some v->w.cell? ⟨R,j * 5+q,none⟩=some v)/\dO cm 3 0 nx w dv y.set.data/\dO en 6 0 nx w gv y.sigs
theorem kM.keep{ls:List Np.Signed}{nx R k:Nat}{w w':World}(h:kM ls nx R k w)(hR:R<w.heap.size)(hb:Below w.heap.size w w'):kM ls nx R k w':=by
 obtain⟨⟨cur,h1,h2⟩,h3⟩:=h;refine⟨⟨cur,(hb.block R hR).trans h1,h2⟩,λj y hj hy=>?_⟩;obtain⟨s,dv,gv,e1,e2,e3,e4,e5⟩:=h3 j y hj hy;exact⟨s,dv,gv,e1,e2,λq v hq=>(hb.cell (p:=⟨R,j * 5+q,none⟩) hR).trans (e3 q v hq),e4.keep bM bY hb,e5.keep dG el hb⟩
theorem kM.set{ls:List Np.Signed}{nx R k m:Nat}{w:World}(h:kM ls nx R k w)(hR:R<nx)(hm:k * 5<=m)(u:Value):kM ls nx R k (w.setCell ⟨R,m,none⟩ u):=by
 obtain⟨⟨cur,h1,h2⟩,h3⟩:=h;refine⟨⟨cur.setIfInBounds m u,by simp[World.setCell,Array.getElem?_modify,h1],by simp[h2]⟩,λj y hj hy=>?_⟩;obtain⟨s,dv,gv,e1,e2,e3,e4,e5⟩:=h3 j y hj hy;refine⟨s,dv,gv,e1,e2,λq v hq=>?_,e4.set bM m8 bY hR u,e5.set dG oJ el hR u⟩;have nH:q<5:=(cQ.1 hq).1;have hne:(⟨R,m,none⟩:Addr)≠⟨R,j * 5+q,none⟩:=λe=>by injection e with _ e2 _;omega
 exact (xQ (h:=hne) ..).trans (e3 q v hq)
theorem kM.other{ls:List Np.Signed}{nx R k:Nat}{w:World}(h:kM ls nx R k w){p:Addr}(hp:p.block<nx)(hne:p.block≠R)(u:Value):kM ls nx R k (w.setCell p u):=by
 obtain⟨⟨cur,h1,h2⟩,h3⟩:=h;refine⟨⟨cur,by simp[World.setCell,Array.getElem?_modify,h1,hne],h2⟩,λj y hj hy=>?_⟩;obtain⟨s,dv,gv,e1,e2,e3,e4,e5⟩:=h3 j y hj hy;exact⟨s,dv,gv,e1,e2,λq v hq=>(World.cell?_setCell_far _ _ _ _ hne).trans (e3 q v hq),e4.set bM m8 bY hp u,e5.set dG oJ el hp u⟩
theorem kM.cell{ls:List Np.Signed}{nx R k m:Nat}{w:World}(h:kM ls nx R k w)(hm:m<15):(∃ u,w.cell? ⟨R,m,none⟩=some u)/\w.frozen? ⟨R,m,none⟩=false:=by
 obtain⟨⟨cur,h1,h2⟩,-⟩:=h;exact⟨by simp only[World.cell?,h1];exact⟨cur[m]'(by omega),by simp[pQ (by omega:m<cur.size)]⟩,by simp[World.frozen?,h1]⟩
theorem kM.size{ls:List Np.Signed}{nx R k:Nat}{w:World}(h:kM ls nx R k w):R<w.heap.size:=by
 obtain⟨⟨cur,h1,h2⟩,-⟩:=h;exact (eQ.1 h1).1
theorem kM.next{ls:List Np.Signed}{nx R k:Nat}{w:World}(h:kM ls nx R k w)(hR:R<nx)(hk:k<3)(y:Np.Signed)(hy:ls[k]?=some y)(s:ByteArray)(dv gv:Value)(h1:s.data.toList=y.set.name)(h2:s.size<=140737488355328)
 (h3:dO cm 3 0 nx w dv y.set.data) (h4:dO en 6 0 nx w gv y.sigs):kM ls nx R (k+1) (w.setCells R (k * 5) [.string s,.int .i64 y.set.type,.int .i64 y.set.life,dv,gv]):=by
 have hc:∀ m,m<15->(w.cell? ⟨R,m,none⟩).isSome=true:=λm hm=>by
  obtain⟨u,hu⟩:=(h.cell hm).1;rw[hu];rfl
 have hin:=World.cell?_setCells_in R [.string s,.int .i64 y.set.type,.int .i64 y.set.life,dv,gv] (k * 5) w (λj hj=>hc _ (by simp at hj;omega));have hold:kM ls nx R k (w.setCells R (k * 5) [.string s,.int .i64 y.set.type,.int .i64 y.set.life,dv,gv]):=by
  simp only[World.setCells];exact ((((h.set hR (by omega) _).set hR (by omega) _).set hR (by omega) _).set hR (by omega) _).set hR (by omega) _
 have h3':dO cm 3 0 nx (w.setCells R (k * 5) [.string s,.int .i64 y.set.type,.int .i64 y.set.life,dv,gv]) dv y.set.data:=by
  simp only[World.setCells];exact ((((h3.set bM m8 bY hR _).set bM m8 bY hR _).set bM m8 bY hR _).set bM m8 bY hR _).set bM m8 bY hR _
 have h4':dO en 6 0 nx (w.setCells R (k * 5) [.string s,.int .i64 y.set.type,.int .i64 y.set.life,dv,gv]) gv y.sigs:=by
  simp only[World.setCells];exact ((((h4.set dG oJ el hR _).set dG oJ el hR _).set dG oJ el hR _).set dG oJ el hR _).set dG oJ el hR _
 refine⟨hold.1,λj z hj hz=>?_⟩;by_cases uY:j<k
 ·exact hold.2 j z uY hz
 ·obtain rfl:j=k:=by omega
  obtain rfl:y=z:=by rw[hy] at hz;exact Option.some.inj hz
  refine⟨s,dv,gv,h1,h2,λq v hq=>?_,h3',h4'⟩;have nH:=(cQ.1 hq).1;rw[hin q nH];rw[<-hq,aQ nH]
end
section
open Go.RowKit Go.Shelf
attribute [local go_sem] Oper.semAt_some
theorem Tryz.infoSgnA:(prog.info? 44).map (λi=>(i.zero,i.size,i.bytes))=some (some (.agg #[.string ⟨#[]⟩,.int .i64 0,.int .i64 0,.slice none 0 0,.slice none 0 0]),5,80):=by kernel_rfl
theorem Uu{P:Program}{fn:Func}{p:Tmp}{ty:TypeId}(h:fn.results = #[.cell p ty])(tmps:Array Value)(w:World)(g:Nat)(v:Value)(hp:tmps.getD p undef = .pointer (some ⟨g,0,none⟩))(hl:(loadVar ty ⟨g,0,none⟩).run P w = .ok v w) :
 (results fn tmps).run P w = .ok v w:=by
 have hp':tmps[p]?.getD undef = .pointer (some ⟨g,0,none⟩):=by simpa using hp
 simp[results,h,hp',asAddr,hl]
theorem bBX{α:Type}{R:aDQ α}{sz:Nat}{w:World}{B:Nat}{A:Option Addr}{n c k c':Nat}{xs:List α}(h:SlR R sz w B (.slice A n c) xs)(hk:k<=xs.length)(hc:k<=c'):SlR R sz w B (.slice A k c') (xs.take k):=by
 obtain⟨A',c2,hA,_,hl,he⟩:=h;simp only[Value.slice.injEq] at hA;obtain⟨rfl,-,rfl⟩:=hA;have hlen:(xs.take k).length=k:=by rw[List.length_take];omega
 refine⟨A,c',by rw[hlen],by omega,by omega,λi x hx=>he i x ?_⟩;rw[List.getElem?_take] at hx;split at hx
 ·exact hx
 ·cases hx
end
section
open Go.RowKit Go.Shelf
attribute [local go_sem] Oper.semAt_some
theorem a3Y(A:Option Addr)(n c:Nat)(ls:List Int)(hn:ls.length=n)(oz:n<=100000)(x:Int)(w:World)(hx:SlR oX 1 w w.heap.size (.slice A n c) ls) :
 Calls prog 257 #[.slice A n c,.int .i64 x] w λe w'=>(∃ k:Int,e = .returned (.int .i64 k)/\(0<=k->x∈ls))/\w'=w:=by
 have HX:=jq hx;have HN:=jq hn;clear hx hn;go_enter func257,ntmps257;go_wp2_with fail;go_loopw [8] (λi wr=>∃ k:Nat,k<=n/\i = .int .i64 k/\wr=w) (λi _=>n - (intOf i).toNat)
 case atStart=>exact⟨0,by omega,rfl,rfl⟩
 case round=>
  obtain⟨k,hk,rfl,rfl⟩:=hrel;by_cases ag:k<n
  ·obtain⟨y,hy⟩:∃ y,ls[k]?=some y:=⟨_,aQ (by rw[HN.out];exact ag)⟩;obtain⟨b,o,rfl,_,c0⟩:=Tu HX.out hy;have df:=kNN k;have dg:(k:Int)<(n:Int):=by omega
   have HY:=jq (gQ hy);clear hy ag;by_cases dY:x=y
   ·have hb:(x == y)=true:=by simpa using dY
    have wJ:=jq dY;clear dY;go_wp2_with fail;go_ret;exact⟨⟨_,rfl,λ_=>by rw[wJ.out];exact HY.out⟩,rfl⟩
   ·have hb:(x == y)=false:=by simpa using dY
    clear dY;go_wp2_with fail;go_roundw
    case rel=>exact⟨k+1,by omega,by go_num,by first | rfl | trivial⟩
    ·simp[intOf]<;>omega
  ·obtain rfl:k=n:=by omega
   clear ag;go_wp2_with fail;go_ret;exact⟨⟨_,rfl,λh=>absurd h (by decide)⟩,rfl⟩
theorem aoX(A:Option Addr)(n c:Nat)(ls:List Int)(hn:ls.length=n)(oz:n<=100000)(x:Int)(w:World)(hx:SlR oX 1 w w.heap.size (.slice A n c) ls) :
 Calls prog 206 #[.slice A n c,.int .i64 x] w λe w'=>(∃ b,e = .returned (.bool b)/\(b=true->x∈ls))/\w'=w:=by
 go_enter func206,ntmps206;go_wp2_with fail;refine (a3Y A n c ls hn oz x w hx).mono ?_;rintro e w2 ⟨⟨k,rfl,hk⟩,rfl⟩;have HK:=jq hk;clear hk;by_cases h0:0<=k
 ·have hd:decide (0<=k)=true:=uQ h0;have HM:=jq (HK.out h0);go_wp2_with fail;go_ret;exact⟨⟨_,rfl,λ_=>HM.out⟩,rfl⟩
 ·have hd:decide (0<=k)=false:=tQ h0;go_wp2_with fail;go_ret;exact⟨⟨false,by first | rfl | simp[hd],λh=>by cases h⟩,rfl⟩
theorem aiK(A:Option Addr)(n c:Nat)(xs:List Np.Signed)(hn:xs.length=n)(oz:n<=100000)(CM:∀ x∈xs,x.set.data.length<=1000/\x.sigs.length<=1000)(V:Nat)(kind:Int)(ps:List Int)(m:Nat)(hm:ps.length=m)(Sn:m<=10000)(ej:∀ p∈ps,p<n)(pA:Option Addr)(pc:Nat)(w:World)(hV:V<w.heap.size)
 (hx:SlR az 5 w w.heap.size (.slice A n c) xs) (h1:w.cell? ⟨V,1,none⟩=some (.slice A n c)) (hP:SlR oX 1 w w.heap.size (.slice pA m pc) ps) :
 Calls prog 143 #[.pointer (some ⟨V,0,none⟩),.int .i64 kind,.slice pA m pc] w λe w'=>∃ A n c l,e = .returned (.agg #[.int .i64 kind,.slice A n c,.string ⟨#[]⟩])/\Np.PickI xs ps m l/\dO az 5 0 w.heap.size w' (.slice A n c) l/\Below w.heap.size w w':=by
 have HX:=jq hx;have HN:=jq hn;have HF:=jq CM;have us:=jq ej;have HM:=jq hm;have nY:=jq hP;have H1:=jq h1;have hpc:m<=pc:=by
  obtain⟨_,_,hA,h2,_⟩:=hP;simp only[Value.slice.injEq] at hA;omega
 obtain⟨X,hX⟩:=aaK w.heap.size;obtain⟨wa,bo⟩:=aaK (w.alloc (.cells #[.int .i64 0,.slice none 0 0,.string ⟨#[]⟩] 29));have jK:wa.heap.size=X+1:=by rw[<-bo];simp[hX]
 have dE:Below w.heap.size w wa:=by rw[<-bo];exact blAl
 have Xs:Hid (wa.heap[X]?=some (.cells #[.int .i64 0,.slice none 0 0,.string ⟨#[]⟩] 29 (0,0))):=jq (by rw[<-bo,<-hX];exact heap_alloc_new _ _);clear hx hn CM ej hm hP h1;go_enter func143,ntmps143;go_upto_region 2 with fail
 obtain⟨wb,eP⟩:=aaK (wa.alloc (.cells #[.int .i64 kind,.slice none 0 0,.string ⟨#[]⟩] 29));rw[eP];have xY:wb.heap.size=X+2:=by rw[<-eP];simp[jK]
 have eE:Below wa.heap.size wa wb:=by rw[<-eP];exact blAl
 have Xt:Hid (wb.heap[X+1]?=some (.cells #[.int .i64 kind,.slice none 0 0,.string ⟨#[]⟩] 29 (0,0))):=jq (by rw[<-eP,<-jK];exact heap_alloc_new _ _);have YY:=jq ((eE.block X (by omega)).trans Xs.out);have AV:=jq (dE.trans (eE.abQ));clear eE dE eP bo;go_wp2_with fail;go_loopw [15] (λi wr=>∃ k:Nat,k<=m/\i = .int .i64 k/\Hid (Below (X+1) wb wr)/\X+2<=wr.heap.size/\∃ (vA:Option Addr) (kk vc:Nat) (l:List Np.Signed) (M:Nat->Prop),Hid (l.length=kk)/\Hid (Np.PickI xs ps k l)/\Hid (wr.heap[X+1]?=some (.cells #[.int .i64 kind,.slice vA kk vc,.string ⟨#[]⟩] 29 (0,0)))/\Hid ((∀ j,M j->j<wr.heap.size)/\∀ j,j<X+2->M j)/\Hid (em az 5 44 (X+2) M wr (.slice vA kk vc) l)) (λi _=>m - (intOf i).toNat)
 case atStart=>exact⟨0,by omega,rfl,jq (vQ _ _),by omega,none,0,0,[],λj=>j<X+2,jq rfl,jq (Np.PickI.start _ _),Xt,jq ⟨λj hj=>by omega,λj hj=>hj⟩,jq (em.nil _)⟩
 case round=>
  obtain⟨k,hk,rfl,eY,xV,vA,kk,vc,l,M,gy,g9,Eq,nW,wn⟩:=hrel;obtain⟨ws,rfl⟩:=aaX wr;have KH:kk<=k:=by have:=g9.out.len;rw[gy.out] at this;exact this
  have Ed:=aaZ AV eY.out;by_cases ag:k<m
  ·obtain⟨p,hp⟩:∃ p,ps[k]?=some p:=⟨_,aQ (by rw[HM.out];exact ag)⟩;have NZ:=jq (nY.out.later L5 L6 Ed.out);obtain⟨b,o,rfl,_,c0⟩:=Tu NZ.out hp;have F9:=us.out p (gQ hp);have df:=kNN k;have dg:(k:Int)<(m:Int):=by omega
   have qD:(k:Int)<=(pc:Int):=by omega
   have mR:k<m:=ag;have IJ:=jq hp;clear hp ag;by_cases KM:p<0
   ·have xK:decide (p<0)=true:=uQ KM;have I1:=jq (g9.out.skip IJ.out (.inl KM));go_wp2_with fail;go_roundw
    case rel=>exact⟨k+1,by omega,by go_num,eY,xV,vA,kk,vc,l,M,gy,I1,Eq,nW,wn⟩
    ·simp[intOf]<;>omega
   ·have xK:decide (p<0)=false:=tQ KM;go_wp2_with fail;refine (aoX _ k pc (ps.take k) (by rw[List.length_take,HM.out];omega) (by omega) p ws (bBX NZ.out (by rw[HM.out];omega) (by omega))).mono ?_;rintro e w2 ⟨⟨bb,rfl,eE⟩,rfl⟩;have Wl:=jq eE;clear eE
    cases bb with
    | true=>
     have I1:=jq (g9.out.skip IJ.out (.inr (Wl.out rfl)));go_wp2_with fail;go_roundw
     case rel=>exact⟨k+1,by omega,by go_num,eY,xV,vA,kk,vc,l,M,gy,I1,Eq,nW,wn⟩
     ·simp[intOf]<;>omega
    | false=>
     obtain⟨i,rfl⟩:∃ i:Nat,p=(i:Int):=⟨p.toNat,by omega⟩;obtain⟨x,fx⟩:∃ x,xs[i]?=some x:=⟨_,aQ (by rw[HN.out];omega)⟩;obtain⟨b2,o2,c2,s,dv,sv,hA,cO,_,aP,dM,aV,aZ,e0,e1,e2,e3,e4⟩:=dN (HX.out.later ax aK Ed.out) fx;simp only[Value.slice.injEq] at hA;obtain⟨rfl,-,rfl⟩:=hA;have RX:=HF.out x (gQ fx);have V0:=jq (g9.out.add IJ.out fx);have bU:=jq (And.intro aP dM);obtain⟨dA,dn,dc,rfl,jC,_,_⟩:=yj aV;obtain⟨gA,gn,gc,rfl,mO,_,_⟩:=yj aZ;have iX:=jq aV;have pV:=jq aZ;have Em:=jq RX;have iO:(0:Int)<=(i:Int):=by omega
     have mP:(i:Int)<(n:Int):=by omega
     have kV:w2.cell? ⟨V,1,none⟩=some (.slice (some ⟨b2,o2,none⟩) n c):=(Ed.out.cell (p:=⟨V,1,none⟩) hV).trans H1.out;clear fx aV aZ RX aP dM;go_upto_region 7 with fail
     obtain⟨E,hE⟩:=aaK w2.heap.size;simp only[hE];obtain⟨wc,sm⟩:=aaK (w2.alloc (.cells #[.string s,.int .i64 x.set.type,.int .i64 x.set.life,.slice dA dn dc,.slice gA gn gc] 44));rw[sm];have To:wc.heap.size=E+1:=by rw[<-sm];simp[hE]
     have iM:Below w2.heap.size w2 wc:=by rw[<-sm];exact blAl
     have NC:Hid (wc.heap[E]?=some (.cells #[.string s,.int .i64 x.set.type,.int .i64 x.set.life,.slice dA dn dc,.slice gA gn gc] 44 (0,0))):=jq (by rw[<-sm,<-hE];exact heap_alloc_new _ _);have Eb:=jq iM;have j3:=fD [_,_,_,_,_] NC.out 3 _ rfl;clear sm e0 e1 e2 e3 e4 kV c0 iM;go_wp2_with fail;refine (P4 _ x.set.data (by have:=Em.out;omega) wc (iX.out.later bM bY Eb.out)).mono ?_;rintro e wd ⟨v1,rfl,ff,ez⟩;have Tp:=ez.size;have FC:=ff.aroundN bY (λ_ _ _ h=>h) Tp (by have:=Em.out;omega);obtain⟨d1,dc1,aMZ⟩:=FC.form;subst aMZ;rw[jC] at FC |-;have nf:=jq FC;clear ff FC;have Il:=jq ((ez.block E (by omega)).trans NC.out);have Hn:=aaZ Eb ez;have j3d:=fD [_,_,_,_,_] Il.out 3 _ rfl;have frd:wd.frozen? ⟨E,3,none⟩=false:=by simp[World.frozen?,Il.out]
     clear ez j3;go_upto_region 8 with fail
     obtain⟨we,zX⟩:=aaK (wd.setCell ⟨E,3,none⟩ (.slice d1 dn dc1));rw[zX];have hze:we.heap.size=wd.heap.size:=by rw[<-zX];simp[World.setCell]
     have ND:Hid (we.heap[E]?=some (.cells #[.string s,.int .i64 x.set.type,.int .i64 x.set.life,.slice d1 dn dc1,.slice gA gn gc] 44 (0,0))):=jq (by rw[<-zX];simp[World.setCell,Array.getElem?_modify,Il.out]);have yG:=jq (show Below w2.heap.size w2 we by rw[<-zX];exact Hn.out.blSe _);have j4:=fD [_,_,_,_,_] ND.out 4 _ rfl;clear j3d frd;go_wp2_with fail;refine (P5 _ x.sigs (by have:=Em.out;omega) we (pV.out.later dG el yG.out)).mono ?_;rintro e wf ⟨v2,rfl,C7,tu⟩;have Tq:=tu.size;have FD:=C7.aroundN el (λ_ _ _ h=>h) Tq (by have:=Em.out;omega);obtain⟨d2,dc2,aMJ⟩:=FD.form;subst aMJ;rw[mO] at FD |-;have V3:=jq FD;clear C7 FD;have Im:=jq ((tu.block E (by omega)).trans ND.out);have Wv:=aaZ yG tu;have j4f:=fD [_,_,_,_,_] Im.out 4 _ rfl;have frf:wf.frozen? ⟨E,4,none⟩=false:=by simp[World.frozen?,Im.out]
     have RK:=tu;clear tu j4;go_upto_region 9 with fail
     obtain⟨wg,oF⟩:=aaK (wf.setCell ⟨E,4,none⟩ (.slice d2 gn dc2));rw[oF];have hzg:wg.heap.size=wf.heap.size:=by rw[<-oF];simp[World.setCell]
     have Xu:Hid (wg.heap[E]?=some (.cells #[.string s,.int .i64 x.set.type,.int .i64 x.set.life,.slice d1 dn dc1,.slice d2 gn dc2] 44 (0,0))):=jq (by rw[<-oF];simp[World.setCell,Array.getElem?_modify,Im.out]);have yH:=jq (show Below w2.heap.size w2 wg by rw[<-oF];exact Wv.out.blSe _);obtain⟨Q,hQ⟩:=aaK wg.heap.size;have hQE:E+1<=Q:=by omega
     have rx:Hid (∀ W,Below wg.heap.size wg W->az (cU W M) W.heap.size [.string s,.int .i64 x.set.type,.int .i64 x.set.life,.slice d1 dn dc1,.slice d2 gn dc2] x):=jq (λW jB=>by
      have hMw:∀ j,M j->j<E:=λj hj=>by have:=nW.out.1 j hj;omega
      have hN:∀ j,(M j\/j=E)->j<E+1:=λj hj=>hj.elim (λh=>by have:=hMw j h;omega) (λh=>by omega);have h1:=nf.out (λj=>M j\/j=E) (λj hj=>⟨jQ _,by have:=hN j hj;omega⟩);have h1:=(Leaves'.setCell (λj=>M j\/j=E) wd (p:=⟨E,3,none⟩) (.inr rfl) (.slice d1 dn dc1)).slr bM m8 bY h1;rw[zX] at h1;have h1:=(Leaves'.of_below (M:=λj=>M j\/j=E) RK).slr bM m8 bY h1;have h1:=(Leaves'.setCell (λj=>M j\/j=E) wf (p:=⟨E,4,none⟩) (.inr rfl) (.slice d2 gn dc2)).slr bM m8 bY h1;rw[oF] at h1;have h1:=(Leaves'.of_below (M:=λj=>M j\/j=E) jB).slr bM m8 bY h1;have h2:=V3.out (λj=>M j\/j=E) (λj hj=>⟨jQ _,by have:=hN j hj;omega⟩);have h2:=(Leaves'.setCell (λj=>M j\/j=E) wf (p:=⟨E,4,none⟩) (.inr rfl) (.slice d2 gn dc2)).slr dG oJ el h2;rw[oF] at h2;have h2:=(Leaves'.of_below (M:=λj=>M j\/j=E) jB).slr dG oJ el h2;exact⟨s,_,_,bU.out.1,bU.out.2,h1.sans m8 (λj h=>.inl h),h2.sans oJ (λj h=>.inl h),rfl⟩)
     clear RK zX;clear oF j4f frf hzg Tq hze Tp To;have NE:=jq ((yH.out.block (X+1) (by omega)).trans Eq.out);have kX:=fD [_,_,_] NE.out 1 _ rfl;have hj:=fD [_,_,_,_,_] Xu.out;have j0:=hj 0 _ rfl;have j1:=hj 1 _ rfl;have j2:=hj 2 _ rfl;have j3:=hj 3 _ rfl;have j4:=hj 4 _ rfl;obtain⟨wh,po⟩:=aaK (wg.alloc (.cells #[.string s,.int .i64 x.set.type,.int .i64 x.set.life,.slice d1 dn dc1,.slice d2 gn dc2] 44));have gE:Below wg.heap.size wg wh:=by rw[<-po];exact blAl
     have hzh:Q+1<=wh.heap.size:=by rw[<-po];simp[hQ]
     have FF:Below w2.heap.size w2 wh:=yH.out.trans (gE.abQ);have IG:=jq (wn.out.keep ax eB aK FF);have AZ:Hid (fm wh Q 0 [.string s,.int .i64 x.set.type,.int .i64 x.set.life,.slice d1 dn dc1,.slice d2 gn dc2]):=jq (by rw[<-hQ];exact E7 (w:=wg) _ _ rfl po.symm);have mA:=jq (rx.out wh gE);have Xv:=jq ((gE.block (X+1) (by omega)).trans NE.out);have Ec:Hid (Below (X+1) wb wh):=aaZ eY FF;have XV:Hid (∀ j,M j->j<wh.heap.size):=jq (λj hj=>by have:=nW.out.1 j hj;have:=FF.size;omega);obtain⟨i0,iO,aOQ,aOZ,aOJ⟩:=info_parts Tryz.infoSgnA;have hXQ:X+1<Q:=by omega
     have bZY:¬ X+1=Q:=by omega
     have aHX:X+2<=wh.heap.size:=by omega
     clear FF gE hj;go_wp2_with (at_builtin;refine Vu (R:=az) (M:=M) wh rfl _ _ 22 rfl (X+2) 44 i0 (.agg #[.string ⟨#[]⟩,.int .i64 0,.int .i64 0,.slice none 0 0,.slice none 0 0]) 80 underlying22 iO aOQ aOZ aOJ rfl (by decide) (.slice vA kk vc) _ rfl IG.out (some ⟨Q,0,none⟩) 1 [x] rfl (L7 rfl mA.out AZ.out) L8 (by rw[gy.out];simp[maxLen];omega) (by rw[gy.out];simp;omega) aHX ax eB aK ?_;intro v8 wj kj jk tt;obtain⟨vA',vc',rfl⟩:=kj.formN (n:=kk+1) (by rw[List.length_append,gy.out];rfl);have H8:=jq (And.intro kj jk);have Ep:=jq ((jk.block (X+1) (by omega) (λh=>by have:=(IG.out.lt _ h.symm).1;omega)).trans Xv.out);have kXj:=fD [_,_,_] Ep.out 1 _ rfl;have frj:wj.frozen? ⟨X+1,1,none⟩=false:=(by simp[World.frozen?,Ep.out]);clear kj jk tt po kX j0 j1 j2 j3 j4);have hzj:=H8.out.2.size;have hXj:X+1<wj.heap.size:=(eQ.1 Ep.out).1;have Wx:Hid (Below (X+1) wb wj):=jq (Ec.out.grown H8.out.2 (by omega) (λg hg=>by have:=(IG.out.lt g hg).1;omega));refine⟨⟨k+1,by omega,by go_num,jq (Wx.out.blSe _),by simp[World.setCell];omega,vA',kk+1,vc',l ++ [x],λj=>M j\/(Value.slice vA' (kk+1) vc').ownBlock=some j,jq (by rw[List.length_append,gy.out];rfl),V0,jq ?_,jq ⟨λj hj=>?_,λj hj=>.inl (nW.out.2 j hj)⟩,jq ?_⟩,?_⟩
     ·simp[World.setCell,Array.getElem?_modify,Ep.out]
     ·rcases hj with hj | hj
      ·have:=XV.out j hj;simp[World.setCell];omega
      ·have:=(H8.out.1.lt j hj).2;simp[World.setCell];omega
     ·exact H8.out.1.leaves ax eB aK (Leaves'.setCell _ wj (p:=⟨X+1,1,none⟩) (.inl (nW.out.2 _ (by dsimp only;omega))) _) (λg hg=>⟨wQ _ _ _ _ (by have:=(H8.out.1.lt g hg).1;dsimp only;omega),.inr hg⟩)
     ·simp[intOf]<;>omega
  ·obtain rfl:k=m:=by omega
   clear ag;have kA:=fD [_,_,_] Eq.out;have kA0:=kA 0 _ rfl;have kA1:=kA 1 _ rfl;have kA2:=kA 2 _ rfl;have IZ:=jq ((eY.out.block X (by omega)).trans YY.out);have kR:=fD [_,_,_] IZ.out;have kR0:=kR 0 _ rfl;have kR1:=kR 1 _ rfl;have kR2:=kR 2 _ rfl;have fR:∀ i,ws.frozen? ⟨X,i,none⟩=false:=λi=>by simp[World.frozen?,IZ.out]
   go_wp2_with fail;obtain⟨wz,gJ⟩:=aaK (((ws.setCell ⟨X,0,none⟩ (.int .i64 kind)).setCell ⟨X,1,none⟩ (.slice vA kk vc)).setCell ⟨X,2,none⟩ (.string ⟨#[]⟩));rw[gJ];have tD:wz.heap[X]?=some (.cells #[.int .i64 kind,.slice vA kk vc,.string ⟨#[]⟩] 29 (0,0)):=by rw[<-gJ];simp[World.setCell,Array.getElem?_modify,IZ.out]
   have xu:Below X w wz:=by
    rw[<-gJ];exact ((((by rw[<-hX];exact Ed.out:Below X w ws).blSe _).blSe _).blSe _)
   have qE:=run_loadVar_row (P:=prog) _ _ 29 29 _ (0,0) _ tD underlying29 rfl (by kernel_rfl);have iG:dO az 5 0 w.heap.size wz (.slice vA kk vc) l:=λM' hM'=>by
    have ki:M X:=nW.out.2 X (by omega);have h1:=wn.out.leaves (w':=wz) (M':=M) ax eB aK (by rw[<-gJ];exact ((Leaves'.setCell M ws (p:=⟨X,0,none⟩) ki _).trans (Leaves'.setCell M _ (p:=⟨X,1,none⟩) ki _)).trans (Leaves'.setCell M _ (p:=⟨X,2,none⟩) ki _)) (λg hg=>by
     have R0:=(wn.out.lt g hg).1;obtain⟨_,_,_,h3,_⟩:=id wn.out;refine⟨?_,h3 g hg⟩;rw[<-gJ];exact (wQ _ _ _ _ (by dsimp only;omega)).trans ((wQ _ _ _ _ (by dsimp only;omega)).trans (wQ _ _ _ _ (by dsimp only;omega))))
    exact h1.slr_sans eB aK (λj hj=>⟨nW.out.2 j (by have:=(hM' j hj).2;omega),λh=>by have:=(wn.out.lt j h).1;have:=(hM' j hj).2;omega⟩) (by rw[gy.out];omega)
   exact bodyPost_ret (Uu rfl _ _ _ _ rfl qE) rfl ⟨_,_,_,l,rfl,g9.out,iG,by rw[hX];exact xu⟩
end
section
open Go.RowKit
structure VwS where
 V:Nat
 r:Nat
 B:Nat
 ap:ByteArray
 A:Option Addr
 n:Nat
 c:Nat
 xs:List Np.Signed
 nm:ByteArray
 ty:Int
 cut:ByteArray
 bh:Bool
 kvs:List ((List UInt8×Int)×Value)
def Np.uF(kvs:List ((List UInt8×Int)×Value))(xs:List Np.Signed):Prop:=∀ p,(∃ (i:Nat) (x:Np.Signed),xs[i]?=some x/\Np.bV x.set=p/\kvs.lookup p=some (.int .i64 i))\/(kvs.lookup p=none/\∀ x∈xs,Np.bV x.set≠p)
structure VwOk(k:VwS):Prop where
 len:k.xs.length=k.n
 few:k.n<=20000
 fewd:∀ x∈k.xs,x.set.data.length<=1000/\x.sigs.length<=1000
 names:∀ x∈k.xs,Np.ai x.set.name=true
 ap1:Np.ai k.ap.data.toList=true
 ap2:k.ap.size<=140737488355328
 nm1:Np.ai k.nm.data.toList=true
 nm2:k.nm.size<=140737488355328
 under:Np.aW k.nm.data.toList k.ap.data.toList=true
 places:Np.uF k.kvs k.xs
 cut1:k.bh=true->Np.ai k.cut.data.toList=true/\Np.ig k.xs k.cut.data.toList 2
 cut2:k.cut.size<=140737488355328
 lo:k.B<=k.r
 lo2:k.r<k.V
structure VwIn(k:VwS)(wd:ByteArray)(w:World):Prop where
 wd1:wd=⟨#[]⟩\/Np.ai wd.data.toList=true
 wd2:wd.size<=140737488355328
 blk:w.heap[k.V]?=some (.cells #[.string k.ap,.slice k.A k.n k.c,.map (some k.r),.string k.nm,.int .i64 k.ty,.string k.cut,.bool k.bh,.string wd] 121 (0,0))
 map:fB k.r k.kvs w
 sets:SlR az 5 w k.B (.slice k.A k.n k.c) k.xs
theorem VwIn.lt{k:VwS}{wd:ByteArray}{w:World}(h:VwIn k wd w):k.V<w.heap.size:=(eQ.1 h.blk).1
theorem VwIn.keep{k:VwS}{wd:ByteArray}{w w':World}{m:Nat}(h:VwIn k wd w)(hk:VwOk k)(hb:Below m w w')(hm:k.V<m):VwIn k wd w':=
 have hl:=hk.lo;have ei:=hk.lo2
 ⟨h.wd1,h.wd2,(hb.block k.V hm).trans h.blk,h.map.keep hb (by omega),h.sets.keep ax (hb.abQ)⟩
theorem VwIn.wild{k:VwS}{wd r:ByteArray}{w:World}(h:VwIn k wd w)(hk:VwOk k)(hr:r=⟨#[]⟩\/Np.ai r.data.toList=true)(jH:r.size<=140737488355328):VwIn k r (w.setCell ⟨k.V,7,none⟩ (.string r)):=by
 have hl:=hk.lo;have ei:=hk.lo2;have hb:Below k.V w (w.setCell ⟨k.V,7,none⟩ (.string r)):=(vQ k.V w).setCell (bQ _) _;refine⟨hr,jH,?_,h.map.keep hb (by omega),h.sets.keep ax (hb.abQ)⟩;simp[World.setCell,Array.getElem?_modify,h.blk]
theorem VwIn.all{k:VwS}{wd:ByteArray}{w:World}(h:VwIn k wd w)(hk:VwOk k):SlR az 5 w w.heap.size (.slice k.A k.n k.c) k.xs:=
 h.sets.more aK (by have:=h.lt;have:=hk.lo;have:=hk.lo2;omega)
theorem VwIn.cells{k:VwS}{wd:ByteArray}{w:World}(h:VwIn k wd w):mr w k.V [.string k.ap,.slice k.A k.n k.c,.map (some k.r),.string k.nm,.int .i64 k.ty,.string k.cut,.bool k.bh,.string wd]:=fD _ h.blk
theorem UV{w:World}{B b c:Nat}(ps:List Int)(hc:∀ i x,ps[i]?=some x->w.cell? ⟨b,i,none⟩=some (.int .i64 x))(hb:b<B)(hl:ps.length<=c)(h6:ps.length<=10000):SlR oX 1 w B (.slice (some ⟨b,0,none⟩) ps.length c) ps:=
 ⟨_,c,rfl,hl,by omega,λi x hx=>⟨b,0,[.int .i64 x],rfl,hb,rfl,λj v hj=>by
  cases j with
  | zero=>
   simp only[List.getElem?_cons_zero,Option.some.injEq] at hj;subst hj;simpa using hc i x hx
  | succ j=>simp at hj,rfl⟩⟩
theorem yi{w:World}{B b m:Nat}(ps:List Int)(hc:mr w b (ps.map (Value.int .i64)))(hb:b<B)(hm:ps.length=m)(h6:m<=10000):SlR oX 1 w B (.slice (some ⟨b,0,none⟩) m m) ps:=by
 subst hm;exact UV ps (λi x hx=>hc i _ (by rw[List.getElem?_map,hx];rfl)) hb (bQ _) h6
structure VhOk(k:VwS):Prop where
 ok:VwOk k
 exap:Np.exN k.xs k.ap.data.toList=true
 cutH:k.bh=true->Np.aW k.nm.data.toList k.cut.data.toList=true/\Np.aW k.cut.data.toList k.ap.data.toList=true/\k.cut.data.toList≠k.ap.data.toList
def WdH(k:VwS)(wd:ByteArray):Prop:=wd=⟨#[]⟩\/Np.ku wd.data.toList k.nm.data.toList=true
theorem VwOk.up{k:VwS}(h:VwOk k):Np.bA k.nm.data.toList k.ap.data.toList=true:=by
 unfold Np.bA;rw[h.nm1,h.ap1,h.under];rfl
theorem WdH.has{k:VwS}{wd:ByteArray}(hw:WdH k wd)(hk:VwOk k){q t:Int}(h:Np.je k.xs q λx=>Np.bV x.set=(wd.data.toList,t)):Np.je k.xs q λx=>Np.bV x.set=(wd.data.toList,t)/\Np.ku wd.data.toList k.nm.data.toList=true:=λh0 x hx=>by
 have h1:=h h0 x hx;refine⟨h1,hw.resolve_left λe=>?_⟩;have h2:=hk.names x (gQ hx);have h3:x.set.name = []:=by
  have:=(Prod.mk.inj h1).1
  rw[this,e]
 rw[h3] at h2;exact absurd h2 (by decide)
theorem vL{k:VwS}{wd:ByteArray}{w:World}(hk:VwOk k)(h:VwIn k wd w)(p:ByteArray)(ty:Int) :
 Calls prog 141 #[.pointer (some ⟨k.V,0,none⟩),.string p,.int .i64 ty] w λe w'=>∃ q:Int,-1<=q/\q<k.n/\e = .returned (.int .i64 q)/\(0<=q↔Np.ig k.xs p.data.toList ty)/\Np.je k.xs q (λx=>Np.bV x.set=(p.data.toList,ty))/\Below w.heap.size w w':=by
 have hc:=h.cells 2 _ rfl;rcases hk.places (p.data.toList,ty) with ⟨i,x,hx,fl,hl⟩ | ⟨hl,dL⟩
 ·refine (LY k.V k.r k.kvs p ty (some (i:Int)) w h.lt hc h.map hl).mono ?_;rintro e w' ⟨rfl,hb⟩;have hi:=(cQ.1 hx).1;have hn:=hk.len;refine⟨i,by omega,by omega,rfl,⟨λ_=>Kh.2 ⟨x,gQ hx,fl⟩,λ_=>by omega⟩,λ_ y hy=>?_,hb⟩;have e:k.xs[i]?=some y:=by simpa using hy
  rw[hx] at e
  cases e
  exact fl
 ·refine (LY k.V k.r k.kvs p ty none w h.lt hc h.map hl).mono ?_;rintro e w' ⟨rfl,hb⟩;refine⟨-1,by omega,by omega,rfl,⟨λh=>absurd h (by decide),λh=>?_⟩,Np.GI (by omega),hb⟩;obtain⟨x,h1,h2⟩:=Kh.1 h;exact absurd h2 (dL x h1)
theorem Mv{k:VwS}{wd:ByteArray}{w:World}(hk:VwOk k)(h:VwIn k wd w) :
 Calls prog 145 #[.pointer (some ⟨k.V,0,none⟩)] w λe w'=>∃ q:Int,-1<=q/\q<k.n/\Np.je k.xs q (λx=>Np.bV x.set=(k.ap.data.toList,4))/\e = .returned (.int .i64 q)/\Below w.heap.size w w':=by
 have hc:=h.cells 2 _ rfl;have h0:=h.cells 0 _ rfl;rcases hk.places (k.ap.data.toList,4) with ⟨i,x,hx,fl,hl⟩ | ⟨hl,dL⟩
 ·refine (U4 k.V k.r k.kvs k.ap (some (i:Int)) w h.lt h0 hc h.map hl).mono ?_;rintro e w' ⟨rfl,hb⟩;have hi:=(cQ.1 hx).1;have hn:=hk.len;refine⟨i,by omega,by omega,λ_ y hy=>?_,rfl,hb⟩;have e:k.xs[i]?=some y:=by simpa using hy
  rw[hx] at e
  cases e
  exact fl
 ·refine (U4 k.V k.r k.kvs k.ap none w h.lt h0 hc h.map hl).mono ?_;rintro e w' ⟨rfl,hb⟩;exact⟨-1,by omega,by omega,Np.GI (by omega),rfl,hb⟩
theorem Mu{k:VwS}{wd:ByteArray}{w:World}(hk:VwOk k)(h:VwIn k wd w)(p:ByteArray)(hp:p.size<=140737488355328)(vp:Np.ai p.data.toList=true) :
 Calls prog 144 #[.pointer (some ⟨k.V,0,none⟩),.string p] w (aCX w.heap.size w (.bool (Np.exN k.xs p.data.toList))):=
 axX k.A k.n k.c k.xs hk.names (by have:=hk.few;omega) p hp vp k.V hk.len w h.lt (h.all hk) (h.cells 1 _ rfl)
theorem yv{k:VwS}{wd:ByteArray}{w:World}(hk:VwOk k)(h:VwIn k wd w)(p:ByteArray)(hp:p.size<=140737488355328)(vp:Np.ai p.data.toList=true) :
 Calls prog 146 #[.pointer (some ⟨k.V,0,none⟩),.string p] w λe w'=>∃ q:Int,-1<=q/\q<k.n/\Np.je k.xs q (λx=>x.set.type=8)/\e = .returned (.int .i64 q)/\Below w.heap.size w w':=
 apQ k.A k.n k.c k.xs hk.names (by have:=hk.few;omega) p hp vp k.V hk.len w h.lt (h.all hk) (h.cells 1 _ rfl)
theorem vK{k:VwS}{wd:ByteArray}{w:World}(hk:VwOk k)(h:VwIn k wd w)(kind:Int)(ps:List Int)(m:Nat)(hm:ps.length=m)(Sn:m<=10000)(ej:∀ p∈ps,p<k.n)(pA:Option Addr)(pc:Nat)(hP:SlR oX 1 w w.heap.size (.slice pA m pc) ps) :
 Calls prog 143 #[.pointer (some ⟨k.V,0,none⟩),.int .i64 kind,.slice pA m pc] w λe w'=>∃ A n c l,e = .returned (.agg #[.int .i64 kind,.slice A n c,.string ⟨#[]⟩])/\Np.PickI k.xs ps m l/\dO az 5 0 w.heap.size w' (.slice A n c) l/\Below w.heap.size w w':=
 aiK k.A k.n k.c k.xs hk.len (by have:=hk.few;omega) hk.fewd k.V kind ps m hm Sn ej pA pc w h.lt (h.all hk) (h.cells 1 _ rfl) hP
theorem E6{α:Type}{R:aDQ α}{sz n:Nat}(w:World):dO (α:=α) R sz 0 n w (.slice none 0 0) []:=λ_ _=>⟨none,0,rfl,by simp,by simp,λi x hx=>by simp at hx⟩
theorem dO.below{α:Type}{R:aDQ α}{sz n:Nat}{w w':World}{v:Value}{xs:List α}(h:dO R sz 0 n w v xs)(hk:dR R)(hs:ia R)(hm:ef R)(hb:Below w.heap.size w w'):dO R sz 0 n w' v xs:=λM hM=>(Leaves'.of_below (M:=M) hb).slr hk hs hm (h M hM)
theorem qf{w w':World}{b:Nat}(h:Below w.heap.size w w'):w.grownBy w' (some b):=⟨h.os,h.tape,h.output,h.size,λi hi _=>h.block i hi⟩
theorem GE{w w':World}{b:Nat}(h:w.grownBy w' (some b)){p:Addr}(hp:w.heap.size<=p.block\/p.block=b)(u:Value):w.grownBy (w'.setCell p u) (some b):=by
 obtain⟨h1,h2,h3,h4,h5⟩:=h;refine⟨h1,h2,h3,by simpa [World.setCell] using h4,λi hi hne=>?_⟩;have h6:p.block≠i:=λe=>by
  rcases hp with hp | hp
  ·omega
  ·exact hne (by rw[<-e,hp])
 simp only[World.setCell,Array.getElem?_modify];rw[Qc h6];exact h5 i hi hne
theorem bgX{w w':World}{b:Nat}(h:w.grownBy w' (some b))(hb:b<=w.heap.size):Below b w w':=by
 obtain⟨h1,h2,h3,h4,h5⟩:=h;exact⟨h1,h2,h3,h4,λi hi=>h5 i (by omega) (λe=>by have:=Option.some.inj e;omega)⟩
theorem L3{fn:Func}{p u:Tmp}{ty:TypeId}(h:fn.results = #[.cell p ty,.tmp u])(tmps:Array Value)(P:Program)(w:World)(g:Nat)(v x:Value)(hp:tmps.getD p undef = .pointer (some ⟨g,0,none⟩))(hl:(loadVar ty ⟨g,0,none⟩).run P w = .ok v w)(hu:tmps.getD u undef=x) :
 (results fn tmps).run P w = .ok (.tuple #[v,x]) w:=by
 have hp':tmps[p]?.getD undef = .pointer (some ⟨g,0,none⟩):=by simpa using hp
 have hu':tmps[u]?.getD undef=x:=by simpa using hu
 rw[results_cell_tmp h];simp[asAddr,hp',hu',hl,Result.andThen]
theorem yp{k:VwS}{wd:ByteArray}{w:World}{R:Nat}(hk:VwOk k)(h:VwIn k wd w)(hR:w.heap.size=R):∃ wa,Hid (VwOk k)/\Hid (VwIn k wd wa)/\Hid (Below w.heap.size w wa)/\Hid (wa.heap[R]?=some (.cells #[.int .i64 0,.slice none 0 0,.string ⟨#[]⟩] 29 (0,0)))/\R+1<=wa.heap.size/\k.V<R/\w.alloc (.cells #[.int .i64 0,.slice none 0 0,.string ⟨#[]⟩] 29)=wa:=by
 have dE:Below w.heap.size w (w.alloc (.cells #[.int .i64 0,.slice none 0 0,.string ⟨#[]⟩] 29)):=blAl;exact⟨_,jq hk,jq (h.keep hk dE h.lt),jq dE,jq (by rw[<-hR];exact heap_alloc_new _ _),by simp[hR],by rw[<-hR];exact h.lt,rfl⟩
theorem Tryz.infoStrH:(prog.info? 9).map (λi=>(i.zero,i.size,i.bytes))=some (some (.string ⟨#[]⟩),1,16):=by kernel_rfl
theorem biZ(w:World)(s:ByteArray)(hs:s.size<=140737488355328):bS RTx 1 9 w.heap.size w.heap.size (w.alloc (.cells #[.string s] 9)) (.slice (some ⟨w.heap.size,0,none⟩) 1 1) [s.data.toList]:=
 ⟨[[.string s]],rfl,World.ownsRow_lit w #[.string s] 1 (bQ _) (by simp[maxLen]) rfl,λi r x hr hx=>by
   cases i with
   | zero=>
    simp only[List.getElem?_cons_zero,Option.some.injEq] at hr hx;subst hr hx;exact⟨rfl,s,rfl,hs,rfl⟩
   | succ i=>simp at hr⟩
theorem ayX(k:VwS)(eW:VhOk k)(hex:Np.exN k.xs k.nm.data.toList=false)(wd:ByteArray)(w:World)(h:VwIn k wd w) :
 Calls prog 147 #[.pointer (some ⟨k.V,0,none⟩)] w λe w'=>∃ r:ByteArray,e = .returned (.string r)/\(r=⟨#[]⟩\/Np.ai r.data.toList=true)/\WdH k r/\r.size<=140737488355328/\Below w.heap.size w w':=by
 have hk:=eW.ok;have oP:=jq eW;have yJ:=jq hex;have HK:=jq hk;have HI:=jq h;have Fz:=h.lt;have c3:=h.cells 3 _ rfl;clear hk h eW hex;go_enter func147,ntmps147;go_wp2_with fail;clear c3;go_loopw [3] (λv wr=>∃ p:ByteArray,v = .string p/\p.size<=140737488355328/\Hid (Np.ai p.data.toList=true/\Np.aW p.data.toList k.ap.data.toList=true/\Np.aW k.nm.data.toList p.data.toList=true)/\Hid (Below w.heap.size w wr)) (λv _=>(Np.bC (SU v)).length)
 case atStart=>exact⟨k.nm,rfl,HK.out.nm2,jq ⟨HK.out.nm1,HK.out.under,Np.Az _⟩,jq (vQ _ _)⟩
 case round=>
  obtain⟨p,rfl,xS,HP,HB⟩:=hrel;obtain⟨ws,rfl⟩:=aaX wr;have yN:=jq (HI.out.keep HK.out HB.out Fz);have c0:=yN.out.cells 0 _ rfl;have hVr:=yN.out.lt;by_cases rY:p=k.ap
  case' pos=>
   have av:(!p.toList == k.ap.toList)=false:=by simp[rY]
   have lE:Hid (k.nm.data.toList≠p.data.toList):=jq (λe=>by have h1:=yJ.out;rw[e,rY,oP.out.exap] at h1;cases h1);clear rY;go_wp2_with fail;have Hp:Hid (Below w.heap.size w ws):=HB;clear HB;obtain⟨wx,rfl⟩:=aaX ws
  case' neg=>
   have il:p.data.toList≠k.ap.data.toList:=λh=>rY (iV h);have av:(!p.toList == k.ap.toList)=true:=by
    rw[dQ,dQ];simpa using il
   have nY:=jq il;clear il rY;go_wp2_with fail;refine (Mu HK.out yN.out p xS HP.out.1).mono ?_;obtain⟨b,eG⟩:=aaK (Np.exN k.xs p.data.toList);rw[eG];have g8:=jq eG;clear eG;rintro e w2 ⟨rfl,hb⟩;have am:=jq (HB.out.trans (hb.mono HB.out.size));clear hb
   cases b
   case' false=>
    have mW:=Np.Ug HP.out.1 (vl HK.out.ap1) HP.out.2.1 nY.out;have jb:=jq mW;clear mW;go_wp2_with fail;refine (LV p xS HP.out.1 jb.out.1 w2).mono ?_;rintro e w8 ⟨q,rfl,hq,oC,hb⟩;have dZ:=jq (am.out.trans (hb.mono am.out.size));have HQ:=jq hq;clear hb hq;go_wp2_with fail;go_roundw
    case rel=>exact⟨q,rfl,oC,jq ⟨by rw[HQ.out];exact (Np.t8 HP.out.1 jb.out.1).1,by rw[HQ.out];exact jb.out.2,by rw[HQ.out];exact Np.DU (vl HP.out.1) (vl (Np.t8 HP.out.1 jb.out.1).1) HP.out.2.2 (Np.Uf HP.out.1 jb.out.1)⟩,dZ⟩
    case measure=>
     show (Np.bC q.data.toList).length<(Np.bC p.data.toList).length;rw[HQ.out];exact Np.LW HP.out.1 jb.out.1
   case' true=>
    go_wp2_with fail;have Hp:Hid (Below w.heap.size w w2):=am;have lE:Hid (k.nm.data.toList≠p.data.toList):=jq (λe=>by have h1:=yJ.out;rw[e,g8.out] at h1;cases h1);clear HB am nY g8;obtain⟨wx,rfl⟩:=aaX w2
  all_goals
   refine (labels_any p HP.out.1 wx).mono ?_;rintro e w3 ⟨⟨v,rfl,hl⟩,hb⟩;have aw:=jq (Hp.out.trans (hb.mono Hp.out.size));obtain⟨lA,ln,lc,rfl,xI,hlc,_⟩:=yj hl;have hl8:ln<=500:=by
    rw[<-xI];have h1:=D.Jw HP.out.1;rw[<-Np.oI,List.length_reverse] at h1;omega
   have us:Hid (∀ x∈([42]:List UInt8)::Np.bC p.data.toList,x.length<=1000):=jq (λx hx=>by
    rcases List.mem_cons.1 hx with rfl | hx
    ·simp
    ·have h1:=Np.B2 (l:=p.data.toList) (y:=x) (by rw[<-Np.oI];exact List.mem_reverse.2 hx);rw[bO] at h1
     have:=nS HP.out.1
     omega)
   have NW:Hid (∀ x∈([42]:List UInt8)::Np.bC p.data.toList,x≠[]/\46∉x):=jq (λx hx=>by
    rcases List.mem_cons.1 hx with rfl | hx
    ·simp
    ·exact Np.bjQ HP.out.1 x hx)
   have OB:Hid (Np.dm ([42]::Np.bC p.data.toList)=Np.eR p.data.toList):=jq Np.bOQ;have pY:=jq (Np.bNK HP.out.1 HK.out.nm1 HP.out.2.2 lE.out);obtain⟨ps,ej⟩:=aaK (Np.bC p.data.toList);rw[ej] at hl xI us NW OB;subst xI;have HL:=jq hl;obtain⟨wb,eP⟩:=aaK (w3.alloc (.cells #[.string ⟨#[42]⟩] 9));have HO:Hid (bS RTx 1 9 w3.heap.size w3.heap.size wb (.slice (some ⟨w3.heap.size,0,none⟩) 1 1) [[42]]):=jq (by rw[<-eP];exact biZ w3 ⟨#[42]⟩ (by decide));have eE:Below w3.heap.size w3 wb:=by rw[<-eP];exact blAl
   have xY:w3.heap.size<=wb.heap.size:=eE.size;have AV:=jq (aw.out.trans (eE.mono aw.out.size));have XS:=jq (HL.out.keep jp eE);obtain⟨i0,iO,eu,bG,bL⟩:=info_parts Tryz.infoStrH;clear hl hb ej eE;go_wp2_with (at_builtin;refine MF (R:=RTx) (sz:=1) wb rfl _ _ 102 rfl w3.heap.size w3.heap.size 9 i0 (.string ⟨#[]⟩) 16 underlying102 iO eu bG bL rfl (by decide) _ [[42]] rfl HO.out lA lc w3.heap.size ps rfl XS.out (λr y h=>by (obtain⟨s,_,_,rfl⟩:=h;intro u hu;simp at hu;subst hu;rfl)) (by simp[maxLen];omega) (by simp;omega) xY (bQ _) (bQ _) jp Au ?_;intro v4 w4 tN aE FW;have H4:=jq (And.intro tN (And.intro (yQ xY aE.size) (AV.out.trans (aE.mono aw.out.size))));clear tN aE FW);have gN:=jq (H4.out.1.slr Au H4.out.2.1 (by simp;omega));obtain⟨jA,jn,jc,rfl,KE,_,_⟩:=yj gN.out;have uX:jn=ps.length+1:=by rw[<-KE];simp
   have XE:=jq KE;clear KE;refine (a7K jA jn jc ([[42]]++ps) XE.out (by omega) (by omega) us.out NW.out w4 gN.out).mono ?_;rintro e w5 ⟨rfl,hb⟩;have bx:=jq (H4.out.2.2.trans (hb.mono H4.out.2.2.size));clear hb;have e1:qY ([[42]]++ps)=qY ([42]::ps):=rfl;rw[e1];clear e1;by_cases zU:Np.ai (Np.dm ([42]::ps))=true
   ·rw[qY,QbQ zU];have Sf:(Np.dm ([42]::ps)).length<=60:=Np.yr zU;have lM:=jq zU;obtain⟨J,hJ⟩:∃ J:ByteArray,(⟨(Np.dm ([42]::ps)).toArray⟩:ByteArray)=J:=⟨_,rfl⟩;have HJ:Hid (J.data.toList=Np.dm ([42]::ps)/\J.size<=60):=jq (by rw[<-hJ];exact⟨rfl,by rw[<-bO];exact Sf⟩);rw[hJ];clear hJ zU Sf;go_wp2_with fail;go_ret;exact⟨J,rfl,.inr (by rw[HJ.out.1];exact lM.out),.inr (by rw[HJ.out.1,OB.out];exact pY.out),by have:=HJ.out.2;omega,bx.out⟩
   ·rw[qY,Qc zU];clear zU;go_wp2_with fail;go_ret;exact⟨⟨#[]⟩,rfl,.inl rfl,.inl rfl,by decide,bx.out⟩
def rF(k:VwS)(w:World)(e:Ending)(w':World):Prop:=
 ∃ (kd:Int) (A:Option Addr) (n m:Nat) (cs:ByteArray) (d:Bool) (l:List Np.Signed),e = .returned (.tuple #[.agg #[.int .i64 kd,.slice A n m,.string cs],.bool d])/\cs.size<=140737488355328/\(d=true->Np.vM k.xs k.ap.data.toList k.nm.data.toList k.ty kd cs.data.toList l)/\dO az 5 0 w.heap.size w' (.slice A n m) l/\w.grownBy w' (some k.V)/\∃ wd',WdH k wd'/\VwIn k wd' w'
theorem ri{fn:Func}{k:VwS}{w w4:World}{R:Nat}{wd:ByteArray}(bp:WdH k wd)(qM:fn.results = #[.cell 2 29,.tmp 3])(hk:VwOk k)(hI:VwIn k wd w4)(hB:w.grownBy w4 (some k.V))(hR:w.heap.size=R)(hV:k.V<R){v0 v1 v2:Value}
 (hb:w4.heap[R]?=some (.cells #[v0,v1,v2] 29 (0,0))) (kd:Int) (A:Option Addr) (n m:Nat) (s:ByteArray) (d:Bool) (Gf:s.size<=140737488355328) (l:List Np.Signed) (hl:dO az 5 0 (R+1) w4 (.slice A n m) l) (hc:d=true->Np.vM k.xs k.ap.data.toList k.nm.data.toList k.ty kd s.data.toList l) (a:Act) (ha:a.defers = []) (h2:a.tmps.getD 2 undef = .pointer (some ⟨R,0,none⟩)) (h3:a.tmps.getD 3 undef = .bool d) :
 bodyPost prog fn (rF k w) Exit.ret a (((w4.setCell ⟨R,0,none⟩ (.int .i64 kd)).setCell ⟨R,1,none⟩ (.slice A n m)).setCell ⟨R,2,none⟩ (.string s)):=by
 obtain⟨wz,gJ⟩:=aaK (((w4.setCell ⟨R,0,none⟩ (.int .i64 kd)).setCell ⟨R,1,none⟩ (.slice A n m)).setCell ⟨R,2,none⟩ (.string s));rw[gJ];have tD:wz.heap[R]?=some (.cells #[.int .i64 kd,.slice A n m,.string s] 29 (0,0)):=by rw[<-gJ];simp[World.setCell,Array.getElem?_modify,hb]
 have xu:Below R w4 wz:=by
  rw[<-gJ];exact (((vQ R w4).blSe _).blSe _).blSe _
 have qE:=run_loadVar_row (P:=prog) _ _ 29 29 _ (0,0) _ tD underlying29 rfl (by kernel_rfl);exact bodyPost_ret (L3 qM _ _ _ _ _ _ h2 qE h3) ha ⟨kd,A,n,m,s,d,l,rfl,Gf,hc,by rw[hR,<-gJ];exact (((hl.set ax eB aK (p:=⟨R,0,none⟩) (Nat.lt_succ_self R) _).set ax eB aK (p:=⟨R,1,none⟩) (Nat.lt_succ_self R) _).set ax eB aK (p:=⟨R,2,none⟩) (Nat.lt_succ_self R) _).less (Nat.le_succ R),by rw[<-gJ];exact GE (GE (GE hB (.inl (Nat.le_of_eq hR)) _) (.inl (Nat.le_of_eq hR)) _) (.inl (Nat.le_of_eq hR)) _,wd,bp,hI.keep hk xu hV⟩
theorem arZ(k:VwS)(eW:VhOk k)(wd:ByteArray)(bp:WdH k wd)(w:World)(h:VwIn k wd w) :
 Calls prog 72 #[.pointer (some ⟨k.V,0,none⟩)] w (rF k w):=by
 have hk:=eW.ok;have jd:=jq bp;have HK:=jq hk;have HI:=jq h;have Fz:=h.lt;clear hk h eW bp;obtain⟨R,hR⟩:=aaK w.heap.size;obtain⟨wa,bo⟩:=aaK (w.alloc (.cells #[.int .i64 0,.slice none 0 0,.string ⟨#[]⟩] 29));have dE:Below w.heap.size w wa:=by rw[<-bo];exact blAl
 have IX:Hid (wa.heap[R]?=some (.cells #[.int .i64 0,.slice none 0 0,.string ⟨#[]⟩] 29 (0,0))):=jq (by rw[<-bo,<-hR];exact heap_alloc_new _ _);have ul:=jq dE;have yM:=jq (HI.out.keep HK.out dE Fz);have jK:wa.heap.size=R+1:=by rw[<-bo];simp[hR]
 have c3:=yM.out.cells 3 _ rfl;have c4:=yM.out.cells 4 _ rfl;have iA:k.V<R:=by omega
 clear dE;go_enter func72,ntmps72;go_upto_region 1 with fail
 clear bo;go_still_tail 11,(by kernel_rfl);change wpList prog _ _ _ _ wa.drew;go_wp2_with fail;refine (vL HK.out (wd:=wd) (w:=wa.drew) (yM.out.keep HK.out (vQ wa.heap.size wa).drew yM.out.lt) k.nm k.ty).mono ?_;rintro e w2 ⟨q,gI,eA,rfl,-,mT,hb⟩;have wD:=jq mT;have ae:Below wa.heap.size wa w2:=(vQ wa.heap.size wa).drew.trans hb;have am:=jq (ul.out.trans (ae.mono ul.out.size));have nn:=jq (yM.out.keep HK.out ae yM.out.lt);have fO:=jq ((ae.block R (by omega)).trans IX.out);have Rr:R+1<=w2.heap.size:=by have:=ae.size;omega
 obtain⟨E,hE⟩:=aaK w2.heap.size;obtain⟨w3,bT⟩:=aaK (w2.alloc (.cells #[.int .i64 q] 3));have aq:Below w2.heap.size w2 w3:=by rw[<-bT];exact blAl
 have HP:=jq (yi (B:=w3.heap.size) (b:=E) [q] (jf [.int .i64 q] 3 hE bT) (by rw[<-bT];simp[hE]) rfl (by simp));have aw:=jq (am.out.trans (aq.mono am.out.size));have yK:=jq (nn.out.keep HK.out aq nn.out.lt);have ju:=jq ((aq.block R (by omega)).trans fO.out);have tn:R+1<=w3.heap.size:=by have:=aq.size;omega
 clear mT hb ae aq;go_wp2_with fail
 try clear bT
 refine (vK HK.out yK.out 1 [q] 1 rfl (by decide) (λp hp=>by simp only[List.mem_singleton] at hp;omega) _ 1 HP.out).mono ?_;rintro e w4 ⟨aA,an,ac,la,rfl,dU,har,hb⟩;have g9:=jq dU;have iG:=jq har;clear dU har;have aX:=jq (aw.out.trans (hb.mono aw.out.size));have Bi:=jq (yK.out.keep HK.out hb yK.out.lt);have iZ:=jq ((hb.block R (by omega)).trans ju.out);have kR:=fD [_,_,_] iZ.out;have kR0:=kR 0 _ rfl;have kR1:=kR 1 _ rfl;have kR2:=kR 2 _ rfl;have fR:∀ i,w4.frozen? ⟨R,i,none⟩=false:=λi=>by simp[World.frozen?,iZ.out]
 clear hb;go_wp2_with fail;exact ri jd.out rfl HK.out Bi.out (qf aX.out) hR iA iZ.out 1 aA an ac _ _ (by decide) la (iG.out.less tn) (λ_=>Np.uG g9.out (λp hp=>by simp only[List.mem_singleton] at hp;subst hp;exact wD.out.imp λx h=>Np.may1 h)) _ rfl rfl rfl
def gT(V:Nat)(nm:ByteArray)(e2:Value)(e9:Value)(e10:Value)(e11:Value)(i:Nat):Value:=[.pointer (some ⟨V,0,none⟩),.pointer (some ⟨V,0,none⟩),e2,.pointer (some ⟨V,0,none⟩),.pointer (some ⟨V,0,none⟩),.pointer (some ⟨V,0,none⟩),.pointer (some ⟨V,3,none⟩),.pointer (some ⟨V,3,none⟩),.string nm,e9,e10,e11,undef,.bool true].getD i undef
def iB(i:Nat):Nat:=[11,12,13,14,15,16,17,18,19,20,21,22,1,3].getD i 0
def aTQ:List Nat:=[0,1,3,4,5,6,7,8,2,9,10,11].map iB
theorem tK:∀ i∈[0,1,3,4,5,6,7,8,2,9,10,11],iB i<29/\iB i∈aTQ:=by decide
theorem tL:∀ i∈[0,1,3,4,5,6,7,8,2,9,10,11],∀ j∈[0,1,3,4,5,6,7,8,2,9,10,11],j≠i->iB i≠iB j:=by decide
def aTZ:List Nat:=[0,1,3,4,5,6,7,8,2,9,10,11,12].map iB
theorem Su:∀ i∈[0,1,3,4,5,6,7,8,2,9,10,11,12],iB i<29/\iB i∈aTZ:=by decide
theorem aSY:∀ i∈[0,1,3,4,5,6,7,8,2,9,10,11,12],∀ j∈[0,1,3,4,5,6,7,8,2,9,10,11,12],j≠i->iB i≠iB j:=by decide
def f9(V:Nat)(nm wd:ByteArray)(e2:Value)(e9:Value)(e15:Value)(e16:Value)(e17:Value)(i:Nat):Value:=[.pointer (some ⟨V,0,none⟩),.pointer (some ⟨V,0,none⟩),e2,.pointer (some ⟨V,0,none⟩),.pointer (some ⟨V,0,none⟩),.pointer (some ⟨V,0,none⟩),.pointer (some ⟨V,3,none⟩),.pointer (some ⟨V,3,none⟩),.string nm,e9,.pointer (some ⟨V,0,none⟩),.pointer (some ⟨V,0,none⟩),.pointer (some ⟨V,0,none⟩),.pointer (some ⟨V,7,none⟩),.string wd,e15,e16,e17,undef,.bool true].getD i undef
def gU(i:Nat):Nat:=[19,20,21,22,23,24,25,26,27,28,29,30,31,32,33,34,35,36,1,3].getD i 0
def aUJ:List Nat:=[0,1,3,4,5,6,7,8,10,11,12,13,14,2,9,15,16,17].map gU
theorem qJ:∀ i∈[0,1,3,4,5,6,7,8,10,11,12,13,14,2,9,15,16,17],gU i<37/\gU i∈aUJ:=by decide
theorem qK:∀ i∈[0,1,3,4,5,6,7,8,10,11,12,13,14,2,9,15,16,17],∀ j∈[0,1,3,4,5,6,7,8,10,11,12,13,14,2,9,15,16,17],j≠i->gU i≠gU j:=by decide
def aUK:List Nat:=[0,1,3,4,5,6,7,8,10,11,12,13,14,2,9,15,16,17,18].map gU
theorem Sw:∀ i∈[0,1,3,4,5,6,7,8,10,11,12,13,14,2,9,15,16,17,18],gU i<37/\gU i∈aUK:=by decide
theorem aUZ:∀ i∈[0,1,3,4,5,6,7,8,10,11,12,13,14,2,9,15,16,17,18],∀ j∈[0,1,3,4,5,6,7,8,10,11,12,13,14,2,9,15,16,17,18],j≠i->gU i≠gU j:=by decide
theorem bfX(k:VwS)(eW:VhOk k)(wd:ByteArray)(bp:WdH k wd)(w:World)(h:VwIn k wd w) :
 Calls prog 74 #[.pointer (some ⟨k.V,0,none⟩)] w (rF k w):=by
 have hk:=eW.ok;have oP:=jq eW;have jd:=jq bp;obtain⟨R,hR⟩:=aaK w.heap.size;obtain⟨wa,HK,dw,gr,ja,lV,iA,bo⟩:=yp hk h hR;clear hk eW bp;go_enter func74,ntmps74;have c3:=dw.out.cells 3 _ rfl;go_wp2_with fail
 try rw[bo]
 try clear bo
 refine (Mu HK.out dw.out k.nm HK.out.nm2 HK.out.nm1).mono ?_;obtain⟨b,eG⟩:=aaK (Np.exN k.xs k.nm.data.toList);rw[eG];have g8:=jq eG;clear eG;rintro e wp ⟨rfl,ae⟩;have iH:=jq (gr.out.trans (ae.mono gr.out.size));have eZ:=jq (dw.out.keep HK.out ae dw.out.lt);have lJ:=jq ((ae.block R (by omega)).trans ja.out);have oo:R+1<=wp.heap.size:=yQ lV ae.size;replace c3:=eZ.out.cells 3 _ rfl;clear ae
 cases b with
 | true=>
  go_upto_region 2 with fail
  obtain⟨wd0,bl⟩:=aaX wp.drew;have ae:Below wp.heap.size wp wd0:=by rw[bl];exact (vQ _ _).drew
  have nk:=jq (iH.out.trans (ae.mono iH.out.size));have gx:=jq (eZ.out.keep HK.out ae eZ.out.lt);have sW:=jq ((ae.block R (by omega)).trans lJ.out);have tq:R+1<=wd0.heap.size:=yQ oo ae.size;replace c3:=gx.out.cells 3 _ rfl;clear ae;refine yz λa0 bD=>?_;have jt:=jq bD;have fi:=jq (show a0.eval (.tmp 0) = .pointer (some ⟨k.V,0,none⟩) by rw[bD];rfl);have eM:=jq (show a0.eval (.tmp 1)=undef by rw[bD];rfl);have eC:=jq (show a0.eval (.tmp 2) = .pointer (some ⟨R,0,none⟩) by rw[bD];rfl);have HM:=jq (show a0.tmps.size=29 by rw[bD];rfl);clear bD;refine wp_region_any (by kernel_rfl) ?_;change wpAny prog .any _ _ _ _ _ wp.drew;rw[<-bl];clear bl;refine cM 2 (D:=[0,1,3,4,5,6,7,8]) (val:=gT k.V k.nm undef undef undef undef) tK tL (rR HM.out) (by kernel_rfl) ?_ ?_
  ·intro i au aI o ho a' hb ao;have k0':=adJ hb fi.out;simp[Act.eval] at k0'
   repeat' (rcases au with _ | ⟨_,au⟩)
   all_goals first
    | (exfalso;simp at aI;done)
    | (cases ho
       try simp[Act.eval,Region.binds,gT,iB] at ao
       refine cC (by simp[Region.wanted]) ?_;simp[Oper.quietAt,Oper.quietUpon,execOp,go_sem,gT,k0',c3,ao])
  ·intro f listed a' hH hr hv;have av1:=hv 1;simp[Act.eval,gT,iB] at av1;simp only[wpOp];simp[Region.wanted];refine .inl ?_;simp[Oper.wp,go_sem,av1];refine (Mv HK.out gx.out).mono ?_;rintro e wc0 ⟨q0,SE,SF,vf,rfl,ae⟩;have BF:=jq vf;clear vf;have ui:=jq (nk.out.trans (ae.mono nk.out.size));have mx:=jq (gx.out.keep HK.out ae gx.out.lt);have BG:=jq ((ae.block R (by omega)).trans sW.out);have Ct:R+1<=wc0.heap.size:=yQ tq ae.size;replace c3:=mx.out.cells 3 _ rfl;clear ae;dsimp only;refine cM 9 (D:=[0,1,3,4,5,6,7,8,2]) (val:=gT k.V k.nm (.int .i64 q0) undef undef undef) tK tL (hH.next tK tL hr) (by kernel_rfl) ?_ ?_
   ·intro i au aI o ho a' hb ao;have k0':=adJ hb fi.out;simp[Act.eval] at k0'
    repeat' (rcases au with _ | ⟨_,au⟩)
    all_goals first
     | (exfalso;simp at aI;done)
     | (cases ho
        try simp[Act.eval,Region.binds,gT,iB] at ao
        refine cC (by simp[Region.wanted]) ?_;simp[Oper.quietAt,Oper.quietUpon,execOp,go_sem,gT,k0',c3,ao])
   ·intro f listed a' hH hr hv;have av3:=hv 3;have av8:=hv 8;simp[Act.eval,gT,iB] at av3 av8;simp only[wpOp];simp[Region.wanted];refine .inl ?_;simp[Oper.wp,go_sem,av3,av8];refine (yv HK.out mx.out k.nm HK.out.nm2 HK.out.nm1).mono ?_;rintro e wc ⟨qc,Gb,Gc,nI,rfl,ae⟩;have sS:=jq nI;clear nI;have nj:=jq (ui.out.trans (ae.mono ui.out.size));have im:=jq (mx.out.keep HK.out ae mx.out.lt);have sV:=jq ((ae.block R (by omega)).trans BG.out);have tp:R+1<=wc.heap.size:=yQ Ct ae.size;replace c3:=im.out.cells 3 _ rfl;clear ae;dsimp only;refine cM 10 (D:=[0,1,3,4,5,6,7,8,2,9]) (val:=gT k.V k.nm (.int .i64 q0) (.int .i64 qc) undef undef) tK tL (hH.next tK tL hr) (by kernel_rfl) ?_ ?_
    ·intro i au aI o ho a' hb ao;have k0':=adJ hb fi.out;simp[Act.eval] at k0'
     repeat' (rcases au with _ | ⟨_,au⟩)
     all_goals first
      | (exfalso;simp at aI;done)
      | (cases ho
         try simp[Act.eval,Region.binds,gT,iB] at ao
         refine cC (by simp[Region.wanted]) ?_;simp[Oper.quietAt,Oper.quietUpon,execOp,go_sem,gT,k0',c3,ao])
    ·intro f listed a' hH hr hv;have av2:=hv 2;have av9:=hv 9;simp[Act.eval,gT,iB] at av2 av9;simp only[wpOp];simp[Region.wanted];refine .inl ?_;simp[Oper.wp,execOp,go_sem,av2,av9];obtain⟨wx,bl⟩:=aaX (wc.alloc (.cells #[.int .i64 q0,.int .i64 qc] 3));rw[<-bl];have ae:Below wc.heap.size wc wx:=by rw[bl];exact blAl
     have HP:=jq (yi (w:=wx) (B:=wx.heap.size) (b:=wc.heap.size) [q0,qc] (jf [.int .i64 q0,.int .i64 qc] 3 rfl bl.symm) (by rw[bl];simp) rfl (by simp));have kF:=jq (nj.out.trans (ae.mono nj.out.size));have fh:=jq (im.out.keep HK.out ae im.out.lt);have pU:=jq ((ae.block R (by omega)).trans sV.out);have kO:R+1<=wx.heap.size:=yQ tp ae.size;replace c3:=fh.out.cells 3 _ rfl;clear bl ae;refine cM 11 (D:=[0,1,3,4,5,6,7,8,2,9,10]) (val:=gT k.V k.nm (.int .i64 q0) (.int .i64 qc) (.slice (some ⟨wc.heap.size,0,none⟩) 2 2) undef) tK tL (hH.next tK tL hr) (by kernel_rfl) ?_ ?_
     ·intro i au aI o ho a' hb ao;have k0':=adJ hb fi.out;simp[Act.eval] at k0'
      repeat' (rcases au with _ | ⟨_,au⟩)
      all_goals first
       | (exfalso;simp at aI;done)
       | (cases ho
          try simp[Act.eval,Region.binds,gT,iB] at ao
          refine cC (by simp[Region.wanted]) ?_;simp[Oper.quietAt,Oper.quietUpon,execOp,go_sem,gT,k0',c3,ao])
     ·intro f listed a' hH hr hv;have av0:=hv 0;have av10:=hv 10;simp[Act.eval,gT,iB] at av0 av10;simp only[wpOp];simp[Region.wanted];refine .inl ?_;simp[Oper.wp,go_sem,av0,av10];refine (vK HK.out fh.out 5 [q0,qc] 2 rfl (by decide) (λp hp=>by simp only[List.mem_cons,Qh,or_false] at hp;omega) _ 2 HP.out).mono ?_;rintro e wy ⟨aA,an,ac,la,rfl,dU,har,ae⟩;have g9:=jq dU;have iG:=jq (har.less kO);clear dU har;have mu:=jq (kF.out.trans (ae.mono kF.out.size));have iI:=jq (fh.out.keep HK.out ae fh.out.lt);have hU:=jq ((ae.block R (by omega)).trans pU.out);have Cu:R+1<=wy.heap.size:=yQ kO ae.size;replace c3:=iI.out.cells 3 _ rfl;clear ae;dsimp only;refine cM 12 (D:=[0,1,3,4,5,6,7,8,2,9,10,11]) (val:=gT k.V k.nm (.int .i64 q0) (.int .i64 qc) (.slice (some ⟨wc.heap.size,0,none⟩) 2 2) (.agg #[.int .i64 5,.slice aA an ac,.string ⟨#[]⟩])) tK tL (hH.next tK tL hr) (by kernel_rfl) ?_ ?_
      ·intro i au aI o ho a' hb ao;have k0':=adJ hb fi.out;simp[Act.eval] at k0'
       repeat' (rcases au with _ | ⟨_,au⟩)
       all_goals first
        | (exfalso;simp at aI;done)
        | (cases ho
           try simp[Act.eval,Region.binds,gT,iB] at ao
           refine cC (by simp[Region.wanted]) ?_;simp[Oper.quietAt,Oper.quietUpon,execOp,go_sem,gT,k0',c3,ao])
      ·intro f listed a' hH hr hv;have av11:=hv 11;simp[Act.eval,gT,iB] at av11;simp only[wpOp];simp[Region.wanted];refine .inl ?_;have kR:=fD [_,_,_] hU.out;have kR0:=kR 0 _ rfl;have kR1:=kR 1 _ rfl;have kR2:=kR 2 _ rfl;have fR:∀ i,wy.frozen? ⟨R,i,none⟩=false:=λi=>by simp[World.frozen?,hU.out]
       have k2':=(aM hH.good.base (j:=2) (by decide) (by decide)).trans eC.out;simp[Act.eval] at k2';simp[Oper.wp,execOp,go_sem,av11,kR0,kR1,kR2,fR,k2'];obtain⟨ws,bl⟩:=aaX (((wy.setCell ⟨R,0,none⟩ (.int .i64 5)).setCell ⟨R,1,none⟩ (.slice aA an ac)).setCell ⟨R,2,none⟩ (.string ⟨#[]⟩));rw[<-bl];have ae:Below R wy ws:=by rw[bl];exact (((vQ R wy).blSe _).blSe _).blSe _
       have uj:=aaZ mu ae;have my:=jq (iI.out.keep HK.out ae iA);replace c3:=my.out.cells 3 _ rfl;clear ae kR kR0 kR1 kR2 fR k2';refine cM 13 (D:=[0,1,3,4,5,6,7,8,2,9,10,11,12]) (val:=gT k.V k.nm (.int .i64 q0) (.int .i64 qc) (.slice (some ⟨wc.heap.size,0,none⟩) 2 2) (.agg #[.int .i64 5,.slice aA an ac,.string ⟨#[]⟩])) Su aSY (hH.skip hr (hv:=eM.out.symm)) (by kernel_rfl) ?_ ?_
       ·intro i au aI o ho a' hb ao;have k0':=adJ hb fi.out;simp[Act.eval] at k0'
        repeat' (rcases au with _ | ⟨_,au⟩)
        all_goals first
         | (exfalso;simp at aI;done)
         | (cases ho
            try simp[Act.eval,Region.binds,gT,iB] at ao
            refine cC (by simp[Region.wanted]) ?_;simp[Oper.quietAt,Oper.quietUpon,execOp,go_sem,gT,k0',c3,ao])
       ·intro f listed a' hH hr hv;simp only[wpOp];simp[Region.wanted];refine .inl ?_;simp[Oper.wp,execOp,go_sem];refine nU hH hr HM.out Su (by kernel_rfl) λeO=>?_;rw[eO];rw[jt.out];simp[kq,Act.put,gT,iB];clear hv hH eO;rw[bl];clear bl;go_wp2_with fail;exact ri jd.out rfl HK.out iI.out (qf mu.out) hR iA hU.out 5 aA an ac ⟨#[]⟩ _ (by decide) la iG.out (λ_=>Np.uG g9.out (λp hp=>by simp only[List.mem_cons,Qh,or_false] at hp;rcases hp with rfl | rfl<;>first | exact BF.out.imp λx h=>Np.LM (.inl rfl) h HK.out.up | exact sS.out.imp λx h=>Np.Dz (.inl rfl) h)) _ rfl rfl rfl
 | false=>
  go_wp2_with fail;refine (ayX k oP.out g8.out wd wp eZ.out).mono ?_;rintro e wf ⟨r,rfl,dl,hrw,jH,ae⟩;replace c3:=eZ.out.cells 3 _ rfl;have Ws:=jq (iH.out.trans (ae.mono iH.out.size));have Eu:=jq (eZ.out.keep HK.out ae eZ.out.lt);have YV:=jq ((ae.block R (by omega)).trans lJ.out);have bXJ:R+1<=wf.heap.size:=yQ oo ae.size;replace c3:=Eu.out.cells 3 _ rfl;have c7:=Eu.out.cells 7 _ rfl;have f7:wf.frozen? ⟨k.V,7,none⟩=false:=by simp[World.frozen?,Eu.out.blk]
  have XB:=jq (Eu.out.wild HK.out dl jH);have mA:=jq hrw;have yH:Hid (w.grownBy (wf.setCell ⟨k.V,7,none⟩ (.string r)) (some k.V)):=jq (GE (qf Ws.out) (.inr rfl) _);have IY:Hid ((wf.setCell ⟨k.V,7,none⟩ (.string r)).heap[R]?=some (.cells #[.int .i64 0,.slice none 0 0,.string ⟨#[]⟩] 29 (0,0))):=jq (by
   simp only[World.setCell,Array.getElem?_modify];rw[Qc (by omega)];exact YV.out)
  have kR:=fD [_,_,_] IY.out;have kR0:=kR 0 _ rfl;have kR1:=kR 1 _ rfl;have kR2:=kR 2 _ rfl;have fR:∀ i,(wf.setCell ⟨k.V,7,none⟩ (.string r)).frozen? ⟨R,i,none⟩=false:=λi=>by simp only[World.frozen?,IY.out];rfl
  clear ae;go_wp2_with fail;exact ri mA.out rfl HK.out XB.out yH.out hR iA IY.out 0 none 0 0 ⟨#[]⟩ false (by decide) [] (E6 _) (λh=>by cases h) _ rfl rfl rfl
theorem bNZ(k:VwS)(eW:VhOk k)(wd:ByteArray)(bp:WdH k wd)(w:World)(h:VwIn k wd w) :
 Calls prog 77 #[.pointer (some ⟨k.V,0,none⟩)] w (rF k w):=by
 have hk:=eW.ok;have oP:=jq eW;have jd:=jq bp;obtain⟨R,hR⟩:=aaK w.heap.size;obtain⟨wa,HK,dw,gr,ja,lV,iA,bo⟩:=yp hk h hR;clear hk eW bp;go_enter func77,ntmps77;have c7:=dw.out.cells 7 _ rfl;by_cases fw:wd=⟨#[]⟩
 ·subst fw;have kR:=fD [_,_,_] ja.out;have kR0:=kR 0 _ rfl;have kR1:=kR 1 _ rfl;have kR2:=kR 2 _ rfl;have fR:∀ i,wa.frozen? ⟨R,i,none⟩=false:=λi=>by simp[World.frozen?,ja.out]
  go_wp2_with fail;exact ri jd.out rfl HK.out dw.out (qf gr.out) hR iA ja.out 0 none 0 0 ⟨#[]⟩ false (by decide) [] (E6 _) (λh=>by cases h) _ rfl rfl rfl
 ·have ah:(wd.toList == [])=false:=by
   simp only[beq_eq_false_iff_ne,ne_eq,dQ];exact λe=>fw (iV e)
  have HW:Hid (Np.ai wd.data.toList=true/\wd.size<=140737488355328):=jq ⟨h.wd1.resolve_left fw,h.wd2⟩;clear fw;go_wp2_with fail
  try rw[bo]
  try clear bo
  refine (Mu HK.out dw.out wd HW.out.2 HW.out.1).mono ?_;generalize Np.exN k.xs wd.data.toList=b;rintro e wp ⟨rfl,ae⟩;have iH:=jq (gr.out.trans (ae.mono gr.out.size));have eZ:=jq (dw.out.keep HK.out ae dw.out.lt);have lJ:=jq ((ae.block R (by omega)).trans ja.out);have oo:R+1<=wp.heap.size:=yQ lV ae.size;have c3:=eZ.out.cells 3 _ rfl;replace c7:=eZ.out.cells 7 _ rfl;clear ae
  cases b with
  | false=>
   have kR:=fD [_,_,_] lJ.out;have kR0:=kR 0 _ rfl;have kR1:=kR 1 _ rfl;have kR2:=kR 2 _ rfl;have fR:∀ i,wp.frozen? ⟨R,i,none⟩=false:=λi=>by simp[World.frozen?,lJ.out]
   go_wp2_with fail;exact ri jd.out rfl HK.out eZ.out (qf iH.out) hR iA lJ.out 0 none 0 0 ⟨#[]⟩ false (by decide) [] (E6 _) (λh=>by cases h) _ rfl rfl rfl
  | true=>
   go_upto_region 3 with fail
   obtain⟨wd0,bl⟩:=aaX wp.drew;have ae:Below wp.heap.size wp wd0:=by rw[bl];exact (vQ _ _).drew
   have nk:=jq (iH.out.trans (ae.mono iH.out.size));have gx:=jq (eZ.out.keep HK.out ae eZ.out.lt);have sW:=jq ((ae.block R (by omega)).trans lJ.out);have tq:R+1<=wd0.heap.size:=yQ oo ae.size;replace c3:=gx.out.cells 3 _ rfl;replace c7:=gx.out.cells 7 _ rfl;clear ae;refine yz λa0 bD=>?_;have jt:=jq bD;have fi:=jq (show a0.eval (.tmp 0) = .pointer (some ⟨k.V,0,none⟩) by rw[bD];rfl);have eM:=jq (show a0.eval (.tmp 1)=undef by rw[bD];rfl);have eC:=jq (show a0.eval (.tmp 2) = .pointer (some ⟨R,0,none⟩) by rw[bD];rfl);have HM:=jq (show a0.tmps.size=37 by rw[bD];rfl);clear bD;refine wp_region_any (by kernel_rfl) ?_;change wpAny prog .any _ _ _ _ _ wp.drew;rw[<-bl];clear bl;refine cM 2 (D:=[0,1,3,4,5,6,7,8,10,11,12,13,14]) (val:=f9 k.V k.nm wd undef undef undef undef undef) qJ qK (rR HM.out) (by kernel_rfl) ?_ ?_
   ·intro i au aI o ho a' hb ao;have k0':=adJ hb fi.out;simp[Act.eval] at k0'
    repeat' (rcases au with _ | ⟨_,au⟩)
    all_goals first
     | (exfalso;simp at aI;done)
     | (cases ho
        try simp[Act.eval,Region.binds,f9,gU] at ao
        refine cC (by simp[Region.wanted]) ?_;simp[Oper.quietAt,Oper.quietUpon,execOp,go_sem,f9,k0',c3,c7,ao])
   ·intro f listed a' hH hr hv;have av1:=hv 1;simp[Act.eval,f9,gU] at av1;simp only[wpOp];simp[Region.wanted];refine .inl ?_;simp[Oper.wp,go_sem,av1];refine (Mv HK.out gx.out).mono ?_;rintro e wc0 ⟨q0,SE,SF,vf,rfl,ae⟩;have BF:=jq vf;clear vf;have ui:=jq (nk.out.trans (ae.mono nk.out.size));have mx:=jq (gx.out.keep HK.out ae gx.out.lt);have BG:=jq ((ae.block R (by omega)).trans sW.out);have Ct:R+1<=wc0.heap.size:=yQ tq ae.size;replace c3:=mx.out.cells 3 _ rfl;replace c7:=mx.out.cells 7 _ rfl;clear ae;dsimp only;refine cM 9 (D:=[0,1,3,4,5,6,7,8,10,11,12,13,14,2]) (val:=f9 k.V k.nm wd (.int .i64 q0) undef undef undef undef) qJ qK (hH.next qJ qK hr) (by kernel_rfl) ?_ ?_
    ·intro i au aI o ho a' hb ao;have k0':=adJ hb fi.out;simp[Act.eval] at k0'
     repeat' (rcases au with _ | ⟨_,au⟩)
     all_goals first
      | (exfalso;simp at aI;done)
      | (cases ho
         try simp[Act.eval,Region.binds,f9,gU] at ao
         refine cC (by simp[Region.wanted]) ?_;simp[Oper.quietAt,Oper.quietUpon,execOp,go_sem,f9,k0',c3,c7,ao])
    ·intro f listed a' hH hr hv;have av3:=hv 3;have av8:=hv 8;simp[Act.eval,f9,gU] at av3 av8;simp only[wpOp];simp[Region.wanted];refine .inl ?_;simp[Oper.wp,go_sem,av3,av8];refine (yv HK.out mx.out k.nm HK.out.nm2 HK.out.nm1).mono ?_;rintro e wc ⟨qc,Gb,Gc,nI,rfl,ae⟩;have sS:=jq nI;clear nI;have nj:=jq (ui.out.trans (ae.mono ui.out.size));have im:=jq (mx.out.keep HK.out ae mx.out.lt);have sV:=jq ((ae.block R (by omega)).trans BG.out);have tp:R+1<=wc.heap.size:=yQ Ct ae.size;replace c3:=im.out.cells 3 _ rfl;replace c7:=im.out.cells 7 _ rfl;clear ae;dsimp only;refine cM 15 (D:=[0,1,3,4,5,6,7,8,10,11,12,13,14,2,9]) (val:=f9 k.V k.nm wd (.int .i64 q0) (.int .i64 qc) undef undef undef) qJ qK (hH.next qJ qK hr) (by kernel_rfl) ?_ ?_
     ·intro i au aI o ho a' hb ao;have k0':=adJ hb fi.out;simp[Act.eval] at k0'
      repeat' (rcases au with _ | ⟨_,au⟩)
      all_goals first
       | (exfalso;simp at aI;done)
       | (cases ho
          try simp[Act.eval,Region.binds,f9,gU] at ao
          refine cC (by simp[Region.wanted]) ?_;simp[Oper.quietAt,Oper.quietUpon,execOp,go_sem,f9,k0',c3,c7,ao])
     ·intro f listed a' hH hr hv;have av10:=hv 10;have av14:=hv 14;simp[Act.eval,f9,gU] at av10 av14;simp only[wpOp];simp[Region.wanted];refine .inl ?_;simp[Oper.wp,go_sem,av10,av14];refine (yv HK.out im.out wd HW.out.2 HW.out.1).mono ?_;rintro e wc1 ⟨qd,b8J,b8K,SI,rfl,ae⟩;have Yo:=jq SI;clear SI;have Nk:=jq (nj.out.trans (ae.mono nj.out.size));have Et:=jq (im.out.keep HK.out ae im.out.lt);have YU:=jq ((ae.block R (by omega)).trans sV.out);have aGQ:R+1<=wc1.heap.size:=yQ tp ae.size;replace c3:=Et.out.cells 3 _ rfl;replace c7:=Et.out.cells 7 _ rfl;clear ae;dsimp only;refine cM 16 (D:=[0,1,3,4,5,6,7,8,10,11,12,13,14,2,9,15]) (val:=f9 k.V k.nm wd (.int .i64 q0) (.int .i64 qc) (.int .i64 qd) undef undef) qJ qK (hH.next qJ qK hr) (by kernel_rfl) ?_ ?_
      ·intro i au aI o ho a' hb ao;have k0':=adJ hb fi.out;simp[Act.eval] at k0'
       repeat' (rcases au with _ | ⟨_,au⟩)
       all_goals first
        | (exfalso;simp at aI;done)
        | (cases ho
           try simp[Act.eval,Region.binds,f9,gU] at ao
           refine cC (by simp[Region.wanted]) ?_;simp[Oper.quietAt,Oper.quietUpon,execOp,go_sem,f9,k0',c3,c7,ao])
      ·intro f listed a' hH hr hv;have av2:=hv 2;have av9:=hv 9;have av15:=hv 15;simp[Act.eval,f9,gU] at av2 av9 av15;simp only[wpOp];simp[Region.wanted];refine .inl ?_;simp[Oper.wp,execOp,go_sem,av2,av9,av15];obtain⟨wx,bl⟩:=aaX (wc1.alloc (.cells #[.int .i64 q0,.int .i64 qc,.int .i64 qd] 3));rw[<-bl];have ae:Below wc1.heap.size wc1 wx:=by rw[bl];exact blAl
       have HP:=jq (yi (w:=wx) (B:=wx.heap.size) (b:=wc1.heap.size) [q0,qc,qd] (jf [.int .i64 q0,.int .i64 qc,.int .i64 qd] 3 rfl bl.symm) (by rw[bl];simp) rfl (by simp));have kF:=jq (Nk.out.trans (ae.mono Nk.out.size));have fh:=jq (Et.out.keep HK.out ae Et.out.lt);have pU:=jq ((ae.block R (by omega)).trans YU.out);have kO:R+1<=wx.heap.size:=yQ aGQ ae.size;replace c3:=fh.out.cells 3 _ rfl;replace c7:=fh.out.cells 7 _ rfl;clear bl ae;refine cM 17 (D:=[0,1,3,4,5,6,7,8,10,11,12,13,14,2,9,15,16]) (val:=f9 k.V k.nm wd (.int .i64 q0) (.int .i64 qc) (.int .i64 qd) (.slice (some ⟨wc1.heap.size,0,none⟩) 3 3) undef) qJ qK (hH.next qJ qK hr) (by kernel_rfl) ?_ ?_
       ·intro i au aI o ho a' hb ao;have k0':=adJ hb fi.out;simp[Act.eval] at k0'
        repeat' (rcases au with _ | ⟨_,au⟩)
        all_goals first
         | (exfalso;simp at aI;done)
         | (cases ho
            try simp[Act.eval,Region.binds,f9,gU] at ao
            refine cC (by simp[Region.wanted]) ?_;simp[Oper.quietAt,Oper.quietUpon,execOp,go_sem,f9,k0',c3,c7,ao])
       ·intro f listed a' hH hr hv;have av0:=hv 0;have av16:=hv 16;simp[Act.eval,f9,gU] at av0 av16;simp only[wpOp];simp[Region.wanted];refine .inl ?_;simp[Oper.wp,go_sem,av0,av16];refine (vK HK.out fh.out 5 [q0,qc,qd] 3 rfl (by decide) (λp hp=>by simp only[List.mem_cons,Qh,or_false] at hp;omega) _ 3 HP.out).mono ?_;rintro e wy ⟨aA,an,ac,la,rfl,dU,har,ae⟩;have g9:=jq dU;have iG:=jq (har.less kO);clear dU har;have mu:=jq (kF.out.trans (ae.mono kF.out.size));have iI:=jq (fh.out.keep HK.out ae fh.out.lt);have hU:=jq ((ae.block R (by omega)).trans pU.out);have Cu:R+1<=wy.heap.size:=yQ kO ae.size;replace c3:=iI.out.cells 3 _ rfl;replace c7:=iI.out.cells 7 _ rfl;clear ae;dsimp only;refine cM 18 (D:=[0,1,3,4,5,6,7,8,10,11,12,13,14,2,9,15,16,17]) (val:=f9 k.V k.nm wd (.int .i64 q0) (.int .i64 qc) (.int .i64 qd) (.slice (some ⟨wc1.heap.size,0,none⟩) 3 3) (.agg #[.int .i64 5,.slice aA an ac,.string ⟨#[]⟩])) qJ qK (hH.next qJ qK hr) (by kernel_rfl) ?_ ?_
        ·intro i au aI o ho a' hb ao;have k0':=adJ hb fi.out;simp[Act.eval] at k0'
         repeat' (rcases au with _ | ⟨_,au⟩)
         all_goals first
          | (exfalso;simp at aI;done)
          | (cases ho
             try simp[Act.eval,Region.binds,f9,gU] at ao
             refine cC (by simp[Region.wanted]) ?_;simp[Oper.quietAt,Oper.quietUpon,execOp,go_sem,f9,k0',c3,c7,ao])
        ·intro f listed a' hH hr hv;have av17:=hv 17;simp[Act.eval,f9,gU] at av17;simp only[wpOp];simp[Region.wanted];refine .inl ?_;have kR:=fD [_,_,_] hU.out;have kR0:=kR 0 _ rfl;have kR1:=kR 1 _ rfl;have kR2:=kR 2 _ rfl;have fR:∀ i,wy.frozen? ⟨R,i,none⟩=false:=λi=>by simp[World.frozen?,hU.out]
         have k2':=(aM hH.good.base (j:=2) (by decide) (by decide)).trans eC.out;simp[Act.eval] at k2';simp[Oper.wp,execOp,go_sem,av17,kR0,kR1,kR2,fR,k2'];obtain⟨ws,bl⟩:=aaX (((wy.setCell ⟨R,0,none⟩ (.int .i64 5)).setCell ⟨R,1,none⟩ (.slice aA an ac)).setCell ⟨R,2,none⟩ (.string ⟨#[]⟩));rw[<-bl];have ae:Below R wy ws:=by rw[bl];exact (((vQ R wy).blSe _).blSe _).blSe _
         have uj:=aaZ mu ae;have my:=jq (iI.out.keep HK.out ae iA);replace c3:=my.out.cells 3 _ rfl;replace c7:=my.out.cells 7 _ rfl;clear ae kR kR0 kR1 kR2 fR k2';refine cM 19 (D:=[0,1,3,4,5,6,7,8,10,11,12,13,14,2,9,15,16,17,18]) (val:=f9 k.V k.nm wd (.int .i64 q0) (.int .i64 qc) (.int .i64 qd) (.slice (some ⟨wc1.heap.size,0,none⟩) 3 3) (.agg #[.int .i64 5,.slice aA an ac,.string ⟨#[]⟩])) Sw aUZ (hH.skip hr (hv:=eM.out.symm)) (by kernel_rfl) ?_ ?_
         ·intro i au aI o ho a' hb ao;have k0':=adJ hb fi.out;simp[Act.eval] at k0'
          repeat' (rcases au with _ | ⟨_,au⟩)
          all_goals first
           | (exfalso;simp at aI;done)
           | (cases ho
              try simp[Act.eval,Region.binds,f9,gU] at ao
              refine cC (by simp[Region.wanted]) ?_;simp[Oper.quietAt,Oper.quietUpon,execOp,go_sem,f9,k0',c3,c7,ao])
         ·intro f listed a' hH hr hv;simp only[wpOp];simp[Region.wanted];refine .inl ?_;simp[Oper.wp,execOp,go_sem];refine nU hH hr HM.out Sw (by kernel_rfl) λeO=>?_;rw[eO];rw[jt.out];simp[kq,Act.put,f9,gU];clear hv hH eO;rw[bl];clear bl;go_wp2_with fail;exact ri jd.out rfl HK.out iI.out (qf mu.out) hR iA hU.out 5 aA an ac ⟨#[]⟩ _ (by decide) la iG.out (λ_=>Np.uG g9.out (λp hp=>by simp only[List.mem_cons,Qh,or_false] at hp;rcases hp with rfl | rfl | rfl<;>first | exact BF.out.imp λx h=>Np.LM (.inl rfl) h HK.out.up | exact sS.out.imp λx h=>Np.Dz (.inl rfl) h | exact Yo.out.imp λx h=>Np.Dz (.inl rfl) h)) _ rfl rfl rfl
theorem Tryz.infoIntH:(prog.info? 3).map (λi=>(i.zero,i.size,i.bytes))=some (some (.int .i64 0),1,8):=by kernel_rfl
theorem ajJ{w:World}{base k:Nat}{v:Value}{vals:List Value}(h:w.ownsRow base 3 1 v k vals)(ty:TypeId)(q:Nat)(x:Int)(hc:w.cell? ⟨q,0,none⟩=some (.int .i64 x))(hk:k<=10000)(hb:base<=w.heap.size) :
 ∃ v' w',(Builtin.append_ #[164,164] ty #[v,.slice (some ⟨q,0,none⟩) 1 1]).run prog w = .ok v' w'/\w'.ownsRow base 3 1 v' (k+1) (vals ++ [.int .i64 x])/\Below base w w':=by
 obtain⟨i0,hi,eu,bG,bL⟩:=info_parts Tryz.infoIntH;obtain⟨v',w',hr,r1,r2,_,_⟩:=run_append_own_at (P:=prog) w base 164 ty 3 i0 (.int .i64 0) 1 8 underlying164 hi eu bG bL rfl (by decide) v k vals h ⟨q,0,none⟩ 1 1 [.int .i64 x] rfl (λj u hj=>by
  cases j with
  | zero=>
   simp only[List.getElem?_cons_zero,Option.some.injEq] at hj;subst hj;exact hc
  | succ j=>simp at hj) (λu hu=>by simp at hu;subst hu;rfl) (by simp[maxLen];omega) (by omega) hb
 exact⟨v',w',hr,r1,(vQ _ _).grown r2 hb (λg e=>(h.lt g e).1)⟩
theorem a4Z{w:World}{base m:Nat}{v:Value}{ps:List Int}(h:w.ownsRow base 3 1 v m (ps.map (Value.int .i64)))(hm:ps.length=m)(h6:m<=10000):SlR oX 1 w w.heap.size v ps:=by
 subst hm;have CC:=λg hg=>World.ownsRow.cells (g:=g) h hg;have ag:=h.lt;rcases h.2 with ⟨rfl,h0⟩ | ⟨g,cap,cur,rfl,_,_,mc,_⟩
 ·obtain rfl:ps = []:=rQ h0;exact⟨none,0,rfl,by simp,by simp,λi x h=>by simp at h⟩
 ·refine UV ps (λi x hx=>?_) (ag g rfl).2 mc h6;have h3:=CC g rfl i (.int .i64 x) (by rw[List.getElem?_map,hx];rfl);have pg:(⟨g,0,none⟩:Addr).add i=⟨g,i,none⟩:=by cases i<;>simp[Addr.add]
  rwa [pg] at h3
end
end Go.Proofs.YtadhigmjilijcaaGreatDoor
