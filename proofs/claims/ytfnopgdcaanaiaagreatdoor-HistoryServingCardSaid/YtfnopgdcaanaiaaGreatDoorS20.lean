/- No condition. -/
import Derived.Test.YtfnopgdcaanaiaaGreatDoorS14
import Derived.Test.YtfnopgdcaanaiaaGreatDoorS16
import Derived.Test.YtfnopgdcaanaiaaGreatDoorS17
set_option linter.all false
set_option maxRecDepth 100000
set_option maxHeartbeats 8000000
namespace Go.Proofs.YtfnopgdcaanaiaaGreatDoor
open Go.Proofs.Tryz
section
open Go.RowKit Go.Shelf
theorem bD.aroundN{α:Type}{R:aiQ α}{sz:Nat}{e:TypeId}{base:Nat}{w:World}{v:Value}{xs:List α}(h:bD R sz e base base w v xs)(hm:dy R)(hr:∀ w' r x,R w base r x->R w' base r x)(hB:base<=w.heap.size)(hl:xs.length<=140737488355328):dx R sz 0 base w v xs:=λM hM=>by
 have h1:=(h.sans (M:=M) (λk hk=>(hM k hk).2) (hr _)).slr hm (by rw[gj];exact hB) hl;rwa [gj] at h1
theorem dx.set{α:Type}{R:aiQ α}{sz n:Nat}{w:World}{v:Value}{xs:List α}(h:dx R sz 0 n w v xs)(hk:dl R)(hs:eB R)(hm:dy R){p:Addr}(hp:p.block<n)(u:Value):dx R sz 0 n (w.setCell p u) v xs:=λM hM=>by
 have h1:=h (λk=>M k\/k=p.block) (λk e=>⟨jQ _,e.elim (λe=>(hM k e).2) (λe=>e ▸ hp)⟩);exact (Leaves'.slr hk hs hm (Leaves'.setCell (λk=>M k\/k=p.block) w (.inr rfl) u) h1).sans hs (λk e=>.inl e)
theorem ek{w:World}{X:Nat}(l:List Value){T:TypeId}(h:w.heap[X]?=some (.cells l.toArray T (0,0))):ic w X l:=λi v hi=>by
 simp[World.cell?,h,hi]
theorem LY{P:Program}{w:World}{ops:Array Oper}{rest:List Oper}{o:Oper}{a:Act}{Q:Exit->Act->World->Prop}(gX:o.guard=none)(s x:Operand)(t:TypeId)(ho:o.op = .call { callee:=.builtin .append,args:=#[s,x],argTypes:=#[t,t] })
 (v u v':Value) (w':World) (hv:a.eval s=v) (hx:a.eval x=u) (hr:(Builtin.append_ #[t,t] o.type #[v,u]).run P w = .ok v' w') (h:wpList P ops Q rest (a.put o.dst v') w'):wpList P ops Q (o::rest) a w:=by
 refine wpList_plain gX λK hK=>?_;unfold Oper.wp execOp;simp only[ho,resolve,invoke,builtin,Sem.run_bind,Sem.run_pure,Result.andThen_ok,List.map_toArray,List.map_cons,List.map_nil,hv,hx,hr];exact hK _ _ h
def jd(ls:List Np.Signed)(nx R k:Nat)(w:World):Prop:=
 (∃ cur:Array Value,w.heap[R]?=some (.cells cur 42 (0,0))/\cur.size=15)/\∀ (j:Nat) (y:Np.Signed),j<k->ls[j]?=some y->
   ∃ (s:ByteArray) (dv gv:Value),s.data.toList=y.set.name/\s.size<=140737488355328/\(∀ (q:Nat) v,[Value.string s,.int .i64 y.set.type,.int .i64 y.set.life,dv,gv][q]?=some v->w.cell? ⟨R,j * 5+q,none⟩=some v)/\dx ci 3 0 nx w dv y.set.data/\dx fi 6 0 nx w gv y.sigs
theorem jd.keep{ls:List Np.Signed}{nx R k:Nat}{w w':World}(h:jd ls nx R k w)(hR:R<w.heap.size)(hb:Below w.heap.size w w'):jd ls nx R k w':=by
 obtain⟨⟨cur,h1,h2⟩,h3⟩:=h;refine⟨⟨cur,(hb.block R hR).trans h1,h2⟩,λj y hj hy=>?_⟩;obtain⟨s,dv,gv,e1,e2,e3,e4,e5⟩:=h3 j y hj hy;exact⟨s,dv,gv,e1,e2,λq v hq=>(hb.cell (p:=⟨R,j * 5+q,none⟩) hR).trans (e3 q v hq),e4.keep cJ di hb,e5.keep eL fJ hb⟩
theorem jd.set{ls:List Np.Signed}{nx R k m:Nat}{w:World}(h:jd ls nx R k w)(hR:R<nx)(hm:k * 5<=m)(u:Value):jd ls nx R k (w.setCell ⟨R,m,none⟩ u):=by
 obtain⟨⟨cur,h1,h2⟩,h3⟩:=h;refine⟨⟨cur.setIfInBounds m u,by simp[World.setCell,Array.getElem?_modify,h1],by simp[h2]⟩,λj y hj hy=>?_⟩;obtain⟨s,dv,gv,e1,e2,e3,e4,e5⟩:=h3 j y hj hy;refine⟨s,dv,gv,e1,e2,λq v hq=>?_,e4.set cJ mL di hR u,e5.set eL nS fJ hR u⟩;have ud:q<5:=(cQ.1 hq).1;have hne:(⟨R,m,none⟩:Addr)≠⟨R,j * 5+q,none⟩:=λe=>by injection e with _ e2 _;omega
 exact (xQ (h:=hne) ..).trans (e3 q v hq)
theorem jd.other{ls:List Np.Signed}{nx R k:Nat}{w:World}(h:jd ls nx R k w){p:Addr}(hp:p.block<nx)(hne:p.block≠R)(u:Value):jd ls nx R k (w.setCell p u):=by
 obtain⟨⟨cur,h1,h2⟩,h3⟩:=h;refine⟨⟨cur,by simp[World.setCell,Array.getElem?_modify,h1,hne],h2⟩,λj y hj hy=>?_⟩;obtain⟨s,dv,gv,e1,e2,e3,e4,e5⟩:=h3 j y hj hy;exact⟨s,dv,gv,e1,e2,λq v hq=>(World.cell?_setCell_far _ _ _ _ hne).trans (e3 q v hq),e4.set cJ mL di hp u,e5.set eL nS fJ hp u⟩
theorem jd.cell{ls:List Np.Signed}{nx R k m:Nat}{w:World}(h:jd ls nx R k w)(hm:m<15):(∃ u,w.cell? ⟨R,m,none⟩=some u)/\w.frozen? ⟨R,m,none⟩=false:=by
 obtain⟨⟨cur,h1,h2⟩,-⟩:=h;exact⟨by simp only[World.cell?,h1];exact⟨cur[m]'(by omega),by simp[pQ (by omega:m<cur.size)]⟩,by simp[World.frozen?,h1]⟩
theorem jd.size{ls:List Np.Signed}{nx R k:Nat}{w:World}(h:jd ls nx R k w):R<w.heap.size:=by
 obtain⟨⟨cur,h1,h2⟩,-⟩:=h;exact (eQ.1 h1).1
theorem jd.next{ls:List Np.Signed}{nx R k:Nat}{w:World}(h:jd ls nx R k w)(hR:R<nx)(hk:k<3)(y:Np.Signed)(hy:ls[k]?=some y)(s:ByteArray)(dv gv:Value)(h1:s.data.toList=y.set.name)(h2:s.size<=140737488355328)
 (h3:dx ci 3 0 nx w dv y.set.data) (h4:dx fi 6 0 nx w gv y.sigs):jd ls nx R (k+1) (w.setCells R (k * 5) [.string s,.int .i64 y.set.type,.int .i64 y.set.life,dv,gv]):=by
 have hc:∀ m,m<15->(w.cell? ⟨R,m,none⟩).isSome=true:=λm hm=>by
  obtain⟨u,hu⟩:=(h.cell hm).1;rw[hu];rfl
 have hin:=World.cell?_setCells_in R [.string s,.int .i64 y.set.type,.int .i64 y.set.life,dv,gv] (k * 5) w (λj hj=>hc _ (by simp at hj;omega));have hold:jd ls nx R k (w.setCells R (k * 5) [.string s,.int .i64 y.set.type,.int .i64 y.set.life,dv,gv]):=by
  simp only[World.setCells];exact ((((h.set hR (by omega) _).set hR (by omega) _).set hR (by omega) _).set hR (by omega) _).set hR (by omega) _
 have h3':dx ci 3 0 nx (w.setCells R (k * 5) [.string s,.int .i64 y.set.type,.int .i64 y.set.life,dv,gv]) dv y.set.data:=by
  simp only[World.setCells];exact ((((h3.set cJ mL di hR _).set cJ mL di hR _).set cJ mL di hR _).set cJ mL di hR _).set cJ mL di hR _
 have h4':dx fi 6 0 nx (w.setCells R (k * 5) [.string s,.int .i64 y.set.type,.int .i64 y.set.life,dv,gv]) gv y.sigs:=by
  simp only[World.setCells];exact ((((h4.set eL nS fJ hR _).set eL nS fJ hR _).set eL nS fJ hR _).set eL nS fJ hR _).set eL nS fJ hR _
 refine⟨hold.1,λj z hj hz=>?_⟩;by_cases wD:j<k
 ·exact hold.2 j z wD hz
 ·obtain rfl:j=k:=by omega
  obtain rfl:y=z:=by rw[hy] at hz;exact Option.some.inj hz
  refine⟨s,dv,gv,h1,h2,λq v hq=>?_,h3',h4'⟩;have ud:=(cQ.1 hq).1;rw[hin q ud];rw[<-hq,aQ ud]
theorem jd.around{ls:List Np.Signed}{nx R n:Nat}{w:World}(h:jd ls nx R 3 w)(hl:ls.length=3)(hn:n<=R)(hR:R<nx):dx br 5 0 n w (.slice (some ⟨R,0,none⟩) 3 3) ls:=λM hM=>by
 refine⟨_,3,by rw[hl],by omega,by omega,λi x hx=>?_⟩;have hi:=(cQ.1 hx).1;obtain⟨s,dv,gv,e1,e2,e3,e4,e5⟩:=h.2 i x (by omega) hx;refine⟨R,0,[.string s,.int .i64 x.set.type,.int .i64 x.set.life,dv,gv],rfl,h.size,rfl,λq v hq=>?_,s,dv,gv,e1,e2,e4 M (λk e=>⟨jQ _,by have:=(hM k e).2;omega⟩),e5 M (λk e=>⟨jQ _,by have:=(hM k e).2;omega⟩),rfl⟩;rw[TF (p:=⟨R,0+i * 5+q,none⟩) (λe=>by have:=(hM _ e).2;dsimp only at this;omega),Nat.zero_add];exact e3 q v hq
end
section
open Go.RowKit Go.Shelf
attribute [local go_sem] Oper.semAt_some
theorem aHY(A:Option Addr)(n c:Nat)(ls:List Int)(hn:ls.length=n)(pR:n<=100000)(x:Int)(w:World)(hx:SlR ei 1 w w.heap.size (.slice A n c) ls) :
 Calls prog 355 #[.slice A n c,.int .i64 x] w λe w'=>(∃ k:Int,e = .returned (.int .i64 k))/\w'=w:=by
 have HX:=jq hx;have HN:=jq hn;clear hx hn;go_enter func355,ntmps355;go_wp2_with fail;go_loopw [8] (λi wr=>∃ k:Nat,k<=n/\i = .int .i64 k/\wr=w) (λi _=>n - (intOf i).toNat)
 case atStart=>exact⟨0,by omega,rfl,rfl⟩
 case round=>
  obtain⟨k,hk,rfl,rfl⟩:=hrel;by_cases ab:k<n
  ·obtain⟨y,hy⟩:∃ y,ls[k]?=some y:=⟨_,aQ (by rw[HN.out];exact ab)⟩;obtain⟨b,o,rfl,_,c0⟩:=K1 HX.out hy;have cj:=kNN k;have ck:(k:Int)<(n:Int):=by omega
   clear hy ab;by_cases cH:x=y
   ·have hb:(x == y)=true:=by simpa using cH
    clear cH;go_wp2_with fail;go_ret;exact⟨⟨_,rfl⟩,rfl⟩
   ·have hb:(x == y)=false:=by simpa using cH
    clear cH;go_wp2_with fail;go_roundw
    case rel=>exact⟨k+1,by omega,by go_num,by first | rfl | trivial⟩
    ·simp[intOf]<;>omega
  ·obtain rfl:k=n:=by omega
   clear ab;go_wp2_with fail;go_ret;exact⟨⟨_,rfl⟩,rfl⟩
theorem Y8(A:Option Addr)(n c:Nat)(ls:List Int)(hn:ls.length=n)(pR:n<=100000)(x:Int)(w:World)(hx:SlR ei 1 w w.heap.size (.slice A n c) ls) :
 Calls prog 329 #[.slice A n c,.int .i64 x] w λe w'=>(∃ b,e = .returned (.bool b))/\w'=w:=by
 go_enter func329,ntmps329;go_wp2_with fail;refine (aHY A n c ls hn pR x w hx).mono ?_;rintro e w2 ⟨⟨k,rfl⟩,rfl⟩;go_wp2_with fail;go_ret;exact⟨⟨_,rfl⟩,rfl⟩
theorem Tryz.infoSgnA:(prog.info? 42).map (λi=>(i.zero,i.size,i.bytes))=some (some (.agg #[.string ⟨#[]⟩,.int .i64 0,.int .i64 0,.slice none 0 0,.slice none 0 0]),5,80):=by kernel_rfl
theorem Yq{w:World}{base k:Nat}{v:Value}{vals:List Value}(h:w.ownsRow base 42 5 v k vals)(ty:TypeId)(q:Nat)(l:List Value)(hl:l.length=5)(h1:∀ u∈l,u.oneCell'=true)(hc:ic w q l)(hk:k<=10000)(hb:base<=w.heap.size) :
 ∃ v' w',(Builtin.append_ #[36,36] ty #[v,.slice (some ⟨q,0,none⟩) 1 1]).run prog w = .ok v' w'/\w'.ownsRow base 42 5 v' (k+1) (vals++l)/\Below base w w':=by
 obtain⟨i0,hi,dP,bF,aO⟩:=info_parts Tryz.infoSgnA;obtain⟨v',w',hr,r1,r2,_,_⟩:=run_append_own_at (P:=prog) w base 36 ty 42 i0 (.agg #[.string ⟨#[]⟩,.int .i64 0,.int .i64 0,.slice none 0 0,.slice none 0 0]) 5 80 underlying36 hi dP bF aO rfl (by decide) v k vals h ⟨q,0,none⟩ 1 1 l (by rw[hl]) (λj u hj=>by rw[show (⟨q,0,none⟩:Addr).add j=⟨q,j,none⟩ by cases j<;>simp[Addr.add]];exact hc j u hj) h1 (by simp[maxLen];omega) (by omega) hb;exact⟨v',w',hr,r1,(vQ _ _).grown r2 hb (λg e=>(h.lt g e).1)⟩
theorem Tr{P:Program}{fn:Func}{p:Tmp}{ty:TypeId}(h:fn.results = #[.cell p ty])(tmps:Array Value)(w:World)(g:Nat)(v:Value)(hp:tmps.getD p undef = .pointer (some ⟨g,0,none⟩))(hl:(loadVar ty ⟨g,0,none⟩).run P w = .ok v w) :
 (results fn tmps).run P w = .ok v w:=by
 have hp':tmps[p]?.getD undef = .pointer (some ⟨g,0,none⟩):=by simpa using hp
 simp[results,h,hp',asAddr,hl]
theorem bfJ{α:Type}{R:aiQ α}{sz:Nat}{w:World}{B:Nat}{A:Option Addr}{n c k c':Nat}{xs:List α}(h:SlR R sz w B (.slice A n c) xs)(hk:k<=xs.length)(hc:k<=c'):SlR R sz w B (.slice A k c') (xs.take k):=by
 obtain⟨A',c2,hA,_,hl,he⟩:=h;simp only[Value.slice.injEq] at hA;obtain⟨rfl,-,rfl⟩:=hA;have hlen:(xs.take k).length=k:=by rw[List.length_take];omega
 refine⟨A,c',by rw[hlen],by omega,by omega,λi x hx=>he i x ?_⟩;rw[List.getElem?_take] at hx;split at hx
 ·exact hx
 ·cases hx
theorem Yi(A:Option Addr)(n c:Nat)(xs:List Np.Signed)(hn:xs.length=n)(pR:n<=100000)(tW:∀ x∈xs,x.set.data.length<=1000/\x.sigs.length<=1000)(V:Nat)(kind:Int)(ps:List Int)(m:Nat)(hm:ps.length=m)(Ci:m<=10000)(dN:∀ p∈ps,p<n)(pA:Option Addr)(pc:Nat)(w:World)(hV:V<w.heap.size)
 (hx:SlR br 5 w w.heap.size (.slice A n c) xs) (h1:w.cell? ⟨V,1,none⟩=some (.slice A n c)) (hP:SlR ei 1 w w.heap.size (.slice pA m pc) ps) :
 Calls prog 265 #[.pointer (some ⟨V,0,none⟩),.int .i64 kind,.slice pA m pc] w λe w'=>∃ A n c,e = .returned (.agg #[.int .i64 kind,.slice A n c,.string ⟨#[]⟩])/\Below w.heap.size w w':=by
 have HX:=jq hx;have HN:=jq hn;have HF:=jq tW;have kU:=jq dN;have HM:=jq hm;have gl:=jq hP;have H1:=jq h1;have hpc:m<=pc:=by
  obtain⟨_,_,hA,h2,_⟩:=hP;simp only[Value.slice.injEq] at hA;omega
 obtain⟨X,hX⟩:=afZ w.heap.size;obtain⟨wa,bg⟩:=afZ (w.alloc (.cells #[.int .i64 0,.slice none 0 0,.string ⟨#[]⟩] 104));have ky:wa.heap.size=X+1:=by rw[<-bg];simp[hX]
 have dW:Below w.heap.size w wa:=by rw[<-bg];exact blAl
 have VF:Hid (wa.heap[X]?=some (.cells #[.int .i64 0,.slice none 0 0,.string ⟨#[]⟩] 104 (0,0))):=jq (by rw[<-bg,<-hX];exact heap_alloc_new _ _);clear hx hn tW dN hm hP h1;go_enter func265,ntmps265;go_upto_region 2 with fail
 obtain⟨wb,eW⟩:=afZ (wa.alloc (.cells #[.int .i64 kind,.slice none 0 0,.string ⟨#[]⟩] 104));rw[eW];have iz:wb.heap.size=X+2:=by rw[<-eW];simp[ky]
 have cW:Below wa.heap.size wa wb:=by rw[<-eW];exact blAl
 have VG:Hid (wb.heap[X+1]?=some (.cells #[.int .i64 kind,.slice none 0 0,.string ⟨#[]⟩] 104 (0,0))):=jq (by rw[<-eW,<-ky];exact heap_alloc_new _ _);have Xb:=jq ((cW.block X (by omega)).trans VF.out);have Ag:=jq (dW.trans (cW.afK));clear cW dW eW bg;go_wp2_with fail;go_loopw [15] (λi wr=>∃ k:Nat,k<=m/\i = .int .i64 k/\Hid (Below (X+1) wb wr)/\X+2<=wr.heap.size/\∃ (v:Value) (kk:Nat) (vals:List Value),kk<=k/\Hid (wr.heap[X+1]?=some (.cells #[.int .i64 kind,v,.string ⟨#[]⟩] 104 (0,0)))/\Hid (wr.ownsRow (X+2) 42 5 v kk vals)) (λi _=>m - (intOf i).toNat)
 case atStart=>exact⟨0,by omega,rfl,jq (vQ _ _),by omega,_,0,[],bQ _,VG,jq ⟨by simp,.inl ⟨rfl,rfl⟩⟩⟩
 case round=>
  obtain⟨k,hk,rfl,bp,Fj,v,kk,vals,ll,DA,pg⟩:=hrel;obtain⟨ws,rfl⟩:=afJ wr;have Dp:=aeX Ag bp.out;by_cases ab:k<m
  ·obtain⟨p,hp⟩:∃ p,ps[k]?=some p:=⟨_,aQ (by rw[HM.out];exact ab)⟩;have NE:=jq (gl.out.later kE qa Dp.out);obtain⟨b,o,rfl,_,c0⟩:=K1 NE.out hp;have Fc:=kU.out p (gQ hp);have cj:=kNN k;have ck:(k:Int)<(m:Int):=by omega
   have lk:(k:Int)<=(pc:Int):=by omega
   have l4:k<m:=ab;clear hp ab;by_cases nE:p<0
   ·have wM:decide (p<0)=true:=uQ nE;go_wp2_with fail;go_roundw
    case rel=>exact⟨k+1,by omega,by go_num,bp,Fj,v,kk,vals,by omega,DA,pg⟩
    ·simp[intOf]<;>omega
   ·have wM:decide (p<0)=false:=tQ nE;go_wp2_with fail;refine (Y8 _ k pc (ps.take k) (by rw[List.length_take,HM.out];omega) (by omega) p ws (bfJ NE.out (by rw[HM.out];omega) (by omega))).mono ?_;rintro e w2 ⟨⟨bb,rfl⟩,rfl⟩
    cases bb with
    | true=>
     go_wp2_with fail;go_roundw
     case rel=>exact⟨k+1,by omega,by go_num,bp,Fj,v,kk,vals,by omega,DA,pg⟩
     ·simp[intOf]<;>omega
    | false=>
     obtain⟨i,rfl⟩:∃ i:Nat,p=(i:Int):=⟨p.toNat,by omega⟩;obtain⟨x,iy⟩:∃ x,xs[i]?=some x:=⟨_,aQ (by rw[HN.out];omega)⟩;obtain⟨b2,o2,c2,s,dv,sv,hA,b7,_,_,_,aY,aN,e0,e1,e2,e3,e4⟩:=dB (HX.out.later aP bK Dp.out) iy;simp only[Value.slice.injEq] at hA;obtain⟨rfl,-,rfl⟩:=hA;have Qn:=HF.out x (gQ iy);obtain⟨dA,dn,dc,rfl,jK,_,_⟩:=xB aY;obtain⟨gA,gn,gc,rfl,oE,_,_⟩:=xB aN;have jy:=jq aY;have lM:=jq aN;have xX:=jq Qn;have ki:(0:Int)<=(i:Int):=by omega
     have l3:(i:Int)<(n:Int):=by omega
     have kV:w2.cell? ⟨V,1,none⟩=some (.slice (some ⟨b2,o2,none⟩) n c):=(Dp.out.cell (p:=⟨V,1,none⟩) hV).trans H1.out;clear iy aY aN Qn;go_upto_region 7 with fail
     obtain⟨E,hE⟩:=afZ w2.heap.size;simp only[hE];obtain⟨wc,qZ⟩:=afZ (w2.alloc (.cells #[.string s,.int .i64 x.set.type,.int .i64 x.set.life,.slice dA dn dc,.slice gA gn gc] 42));rw[qZ];have RT:wc.heap.size=E+1:=by rw[<-qZ];simp[hE]
     have vP:Below w2.heap.size w2 wc:=by rw[<-qZ];exact blAl
     have MU:Hid (wc.heap[E]?=some (.cells #[.string s,.int .i64 x.set.type,.int .i64 x.set.life,.slice dA dn dc,.slice gA gn gc] 42 (0,0))):=jq (by rw[<-qZ,<-hE];exact heap_alloc_new _ _);have Do:=jq vP;have j3:=ek [_,_,_,_,_] MU.out 3 _ rfl;clear qZ e0 e1 e2 e3 e4 kV c0 vP;go_wp2_with fail;refine (IU _ x.set.data (by have:=xX.out;omega) wc (jy.out.later cJ di Do.out)).mono ?_;rintro e wd ⟨v1,rfl,Cq,gV⟩;have RU:=gV.size;obtain⟨d1,dc1,aoJ⟩:=(Cq.aroundN di (λ_ _ _ h=>h) RU (by have:=xX.out;omega)).form;subst aoJ;rw[jK];clear Cq;have He:=jq ((gV.block E (by omega)).trans MU.out);have GE:=aeX Do gV;have j3d:=ek [_,_,_,_,_] He.out 3 _ rfl;have frd:wd.frozen? ⟨E,3,none⟩=false:=by simp[World.frozen?,He.out]
     clear gV j3;go_upto_region 8 with fail
     obtain⟨we,CM⟩:=afZ (wd.setCell ⟨E,3,none⟩ (.slice d1 dn dc1));rw[CM];have hze:we.heap.size=wd.heap.size:=by rw[<-CM];simp[World.setCell]
     have MV:Hid (we.heap[E]?=some (.cells #[.string s,.int .i64 x.set.type,.int .i64 x.set.life,.slice d1 dn dc1,.slice gA gn gc] 42 (0,0))):=jq (by rw[<-CM];simp[World.setCell,Array.getElem?_modify,He.out]);have xS:=jq (show Below w2.heap.size w2 we by rw[<-CM];exact GE.out.blSe _);have j4:=ek [_,_,_,_,_] MV.out 4 _ rfl;clear CM j3d frd;go_wp2_with fail;refine (OO _ x.sigs (by have:=xX.out;omega) we (lM.out.later eL fJ xS.out)).mono ?_;rintro e wf ⟨v2,rfl,QT,tN⟩;have RV:=tN.size;obtain⟨d2,dc2,aoK⟩:=(QT.aroundN fJ (λ_ _ _ h=>h) RV (by have:=xX.out;omega)).form;subst aoK;rw[oE];clear QT;have Hf:=jq ((tN.block E (by omega)).trans MV.out);have U2:=aeX xS tN;have j4f:=ek [_,_,_,_,_] Hf.out 4 _ rfl;have frf:wf.frozen? ⟨E,4,none⟩=false:=by simp[World.frozen?,Hf.out]
     clear tN j4;go_upto_region 9 with fail
     obtain⟨wg,pY⟩:=afZ (wf.setCell ⟨E,4,none⟩ (.slice d2 gn dc2));rw[pY];have zx:wg.heap.size=wf.heap.size:=by rw[<-pY];simp[World.setCell]
     have VH:Hid (wg.heap[E]?=some (.cells #[.string s,.int .i64 x.set.type,.int .i64 x.set.life,.slice d1 dn dc1,.slice d2 gn dc2] 42 (0,0))):=jq (by rw[<-pY];simp[World.setCell,Array.getElem?_modify,Hf.out]);have xT:=jq (show Below w2.heap.size w2 wg by rw[<-pY];exact U2.out.blSe _);obtain⟨Q,hQ⟩:=afZ wg.heap.size;have hQE:E+1<=Q:=by omega
     clear pY j4f frf zx RV hze RU RT;obtain⟨vA,vc,rfl⟩:=oN pg.out;have MW:=jq ((xT.out.block (X+1) (by omega)).trans DA.out);have kX:=ek [_,_,_] MW.out 1 _ rfl;have hj:=ek [_,_,_,_,_] VH.out;have j0:=hj 0 _ rfl;have j1:=hj 1 _ rfl;have j2:=hj 2 _ rfl;have j3:=hj 3 _ rfl;have j4:=hj 4 _ rfl;obtain⟨wh,zo⟩:=afZ (wg.alloc (.cells #[.string s,.int .i64 x.set.type,.int .i64 x.set.life,.slice d1 dn dc1,.slice d2 gn dc2] 42));have mx:Below wg.heap.size wg wh:=by rw[<-zo];exact blAl
     have RW:Q+1<=wh.heap.size:=by rw[<-zo];simp[hQ]
     have JN:Below w2.heap.size w2 wh:=xT.out.trans (mx.afK);have QO:wh.ownsRow (X+2) 42 5 (.slice vA kk vc) kk vals:=dS pg.out (λg hg=>JN.block g (pg.out.lt g hg).2);obtain⟨v',wj,iO,ze,tO⟩:=Yq QO 36 Q [.string s,.int .i64 x.set.type,.int .i64 x.set.life,.slice d1 dn dc1,.slice d2 gn dc2] rfl (λu hu=>by simp at hu;rcases hu with rfl | rfl | rfl | rfl | rfl<;>rfl) (eb _ _ hQ zo) (by omega) (by omega);obtain⟨vA',vc',rfl⟩:=oN ze;have kJ:=jq iO;have No:=jq ze;have hzj:=tO.size;have Dz:=jq ((tO.block (X+1) (by omega)).trans ((mx.block (X+1) (by omega)).trans MW.out));have xU:Hid (Below (X+1) wb wj):=jq (bp.out.trans ((JN.afK).trans (tO.afK)));have kXj:=ek [_,_,_] Dz.out 1 _ rfl;have frj:wj.frozen? ⟨X+1,1,none⟩=false:=by simp[World.frozen?,Dz.out]
     have hXQ:X+1<Q:=by omega
     have bCX:¬ X+1=Q:=by omega
     clear iO ze QO JN mx tO hj RW;go_wp2_with (at_builtin;refine LY rfl _ _ 36 rfl _ _ _ wj rfl rfl kJ.out ?_;clear zo kX j0 j1 j2 j3 j4);have hXj:X+1<wj.heap.size:=(eQ.1 Dz.out).1;refine⟨⟨k+1,by omega,by go_num,jq (xU.out.blSe _),by simp[World.setCell];omega,.slice vA' (kk+1) vc',kk+1,vals ++ [.string s,.int .i64 x.set.type,.int .i64 x.set.life,.slice d1 dn dc1,.slice d2 gn dc2],by omega,jq ?_,jq ?_⟩,?_⟩
     ·simp[World.setCell,Array.getElem?_modify,Dz.out]
     ·exact dS No.out (λg hg=>by
       have h1:=(No.out.lt g hg).1;simp only[World.setCell,Array.getElem?_modify];rw[Qc (by omega)])
     ·simp[intOf]<;>omega
  ·obtain rfl:k=m:=by omega
   clear ab;obtain⟨vA,vc,rfl⟩:=oN pg.out;have kA:=ek [_,_,_] DA.out;have kA0:=kA 0 _ rfl;have kA1:=kA 1 _ rfl;have kA2:=kA 2 _ rfl;have Ip:=jq ((bp.out.block X (by omega)).trans Xb.out);have kR:=ek [_,_,_] Ip.out;have kR0:=kR 0 _ rfl;have kR1:=kR 1 _ rfl;have kR2:=kR 2 _ rfl;have fR:∀ i,ws.frozen? ⟨X,i,none⟩=false:=λi=>by simp[World.frozen?,Ip.out]
   go_wp2_with fail;obtain⟨wz,gi⟩:=afZ (((ws.setCell ⟨X,0,none⟩ (.int .i64 kind)).setCell ⟨X,1,none⟩ (.slice vA kk vc)).setCell ⟨X,2,none⟩ (.string ⟨#[]⟩));rw[gi];have pL:wz.heap[X]?=some (.cells #[.int .i64 kind,.slice vA kk vc,.string ⟨#[]⟩] 104 (0,0)):=by rw[<-gi];simp[World.setCell,Array.getElem?_modify,Ip.out]
   have eS:Below X w wz:=by
    rw[<-gi];exact ((((by rw[<-hX];exact Dp.out:Below X w ws).blSe _).blSe _).blSe _)
   have nC:=run_loadVar_row (P:=prog) _ _ 104 104 _ (0,0) _ pL underlying104 rfl (by kernel_rfl);exact bodyPost_ret (Tr rfl _ _ _ _ rfl nC) rfl ⟨_,_,_,rfl,by rw[hX];exact eS⟩
end
section
open Go.RowKit
structure VwS where
 V:Nat
 r:Nat
 B:Nat
 ap:ByteArray
 A:Option Addr
 n:Nat
 c:Nat
 xs:List Np.Signed
 nm:ByteArray
 ty:Int
 cut:ByteArray
 bh:Bool
 kvs:List ((List UInt8×Int)×Value)
def Np.tA(kvs:List ((List UInt8×Int)×Value))(xs:List Np.Signed):Prop:=∀ p,(∃ (i:Nat) (x:Np.Signed),xs[i]?=some x/\Np.cx x.set=p/\kvs.lookup p=some (.int .i64 i))\/(kvs.lookup p=none/\∀ x∈xs,Np.cx x.set≠p)
structure VwOk(k:VwS):Prop where
 len:k.xs.length=k.n
 few:k.n<=20000
 fewd:∀ x∈k.xs,x.set.data.length<=1000/\x.sigs.length<=1000
 names:∀ x∈k.xs,Np.al x.set.name=true
 ap1:Np.al k.ap.data.toList=true
 ap2:k.ap.size<=140737488355328
 nm1:Np.al k.nm.data.toList=true
 nm2:k.nm.size<=140737488355328
 under:Np.aX k.nm.data.toList k.ap.data.toList=true
 places:Np.tA k.kvs k.xs
 cut1:k.bh=true->Np.al k.cut.data.toList=true/\Np.fS k.xs k.cut.data.toList 2
 cut2:k.cut.size<=140737488355328
 lo:k.B<=k.r
 lo2:k.r<k.V
structure VwIn(k:VwS)(wd:ByteArray)(w:World):Prop where
 wd1:wd=⟨#[]⟩\/Np.al wd.data.toList=true
 wd2:wd.size<=140737488355328
 blk:w.heap[k.V]?=some (.cells #[.string k.ap,.slice k.A k.n k.c,.map (some k.r),.string k.nm,.int .i64 k.ty,.string k.cut,.bool k.bh,.string wd] 257 (0,0))
 map:iH k.r k.kvs w
 sets:SlR br 5 w k.B (.slice k.A k.n k.c) k.xs
theorem VwIn.lt{k:VwS}{wd:ByteArray}{w:World}(h:VwIn k wd w):k.V<w.heap.size:=(eQ.1 h.blk).1
theorem VwIn.keep{k:VwS}{wd:ByteArray}{w w':World}{m:Nat}(h:VwIn k wd w)(hk:VwOk k)(hb:Below m w w')(hm:k.V<m):VwIn k wd w':=
 have hl:=hk.lo;have dF:=hk.lo2
 ⟨h.wd1,h.wd2,(hb.block k.V hm).trans h.blk,h.map.keep hb (by omega),h.sets.keep aP (hb.afK)⟩
theorem VwIn.wild{k:VwS}{wd r:ByteArray}{w:World}(h:VwIn k wd w)(hk:VwOk k)(hr:r=⟨#[]⟩\/Np.al r.data.toList=true)(zi:r.size<=140737488355328):VwIn k r (w.setCell ⟨k.V,7,none⟩ (.string r)):=by
 have hl:=hk.lo;have dF:=hk.lo2;have hb:Below k.V w (w.setCell ⟨k.V,7,none⟩ (.string r)):=(vQ k.V w).setCell (bQ _) _;refine⟨hr,zi,?_,h.map.keep hb (by omega),h.sets.keep aP (hb.afK)⟩;simp[World.setCell,Array.getElem?_modify,h.blk]
theorem VwIn.all{k:VwS}{wd:ByteArray}{w:World}(h:VwIn k wd w)(hk:VwOk k):SlR br 5 w w.heap.size (.slice k.A k.n k.c) k.xs:=
 h.sets.more bK (by have:=h.lt;have:=hk.lo;have:=hk.lo2;omega)
theorem VwIn.cells{k:VwS}{wd:ByteArray}{w:World}(h:VwIn k wd w):ic w k.V [.string k.ap,.slice k.A k.n k.c,.map (some k.r),.string k.nm,.int .i64 k.ty,.string k.cut,.bool k.bh,.string wd]:=ek _ h.blk
theorem uB{k:VwS}{wd:ByteArray}{w:World}(hk:VwOk k)(h:VwIn k wd w)(p:ByteArray)(ty:Int) :
 Calls prog 263 #[.pointer (some ⟨k.V,0,none⟩),.string p,.int .i64 ty] w λe w'=>∃ q:Int,-1<=q/\q<k.n/\e = .returned (.int .i64 q)/\(0<=q↔Np.fS k.xs p.data.toList ty)/\Below w.heap.size w w':=by
 have hc:=h.cells 2 _ rfl;rcases hk.places (p.data.toList,ty) with ⟨i,x,hx,zq,hl⟩ | ⟨hl,fG⟩
 ·refine (Lc k.V k.r k.kvs p ty (some (i:Int)) w h.lt hc h.map hl).mono ?_;rintro e w' ⟨rfl,hb⟩;have hi:=(cQ.1 hx).1;have hn:=hk.len;refine⟨i,by omega,by omega,rfl,⟨λ_=>JJ.2 ⟨x,gQ hx,zq⟩,λ_=>by omega⟩,hb⟩
 ·refine (Lc k.V k.r k.kvs p ty none w h.lt hc h.map hl).mono ?_;rintro e w' ⟨rfl,hb⟩;refine⟨-1,by omega,by omega,rfl,⟨λh=>absurd h (by decide),λh=>?_⟩,hb⟩;obtain⟨x,h1,h2⟩:=JJ.1 h;exact absurd h2 (fG x h1)
theorem LP{k:VwS}{wd:ByteArray}{w:World}(hk:VwOk k)(h:VwIn k wd w) :
 Calls prog 267 #[.pointer (some ⟨k.V,0,none⟩)] w λe w'=>∃ q:Int,-1<=q/\q<k.n/\e = .returned (.int .i64 q)/\Below w.heap.size w w':=by
 have hc:=h.cells 2 _ rfl;have h0:=h.cells 0 _ rfl;rcases hk.places (k.ap.data.toList,4) with ⟨i,x,hx,zq,hl⟩ | ⟨hl,fG⟩
 ·refine (TW k.V k.r k.kvs k.ap (some (i:Int)) w h.lt h0 hc h.map hl).mono ?_;rintro e w' ⟨rfl,hb⟩;have hi:=(cQ.1 hx).1;have hn:=hk.len;exact⟨i,by omega,by omega,rfl,hb⟩
 ·refine (TW k.V k.r k.kvs k.ap none w h.lt h0 hc h.map hl).mono ?_;rintro e w' ⟨rfl,hb⟩;exact⟨-1,by omega,by omega,rfl,hb⟩
theorem LO{k:VwS}{wd:ByteArray}{w:World}(hk:VwOk k)(h:VwIn k wd w)(p:ByteArray)(hp:p.size<=140737488355328)(vp:Np.al p.data.toList=true) :
 Calls prog 266 #[.pointer (some ⟨k.V,0,none⟩),.string p] w λe w'=>∃ b,e = .returned (.bool b)/\Below w.heap.size w w':=
 Z7 k.A k.n k.c k.xs hk.names (by have:=hk.few;omega) p hp vp k.V hk.len w h.lt (h.all hk) (h.cells 1 _ rfl)
theorem xG{k:VwS}{wd:ByteArray}{w:World}(hk:VwOk k)(h:VwIn k wd w)(p:ByteArray)(hp:p.size<=140737488355328)(vp:Np.al p.data.toList=true) :
 Calls prog 268 #[.pointer (some ⟨k.V,0,none⟩),.string p] w λe w'=>∃ q:Int,-1<=q/\q<k.n/\e = .returned (.int .i64 q)/\Below w.heap.size w w':=
 Zc k.A k.n k.c k.xs hk.names (by have:=hk.few;omega) p hp vp k.V hk.len w h.lt (h.all hk) (h.cells 1 _ rfl)
theorem uA{k:VwS}{wd:ByteArray}{w:World}(hk:VwOk k)(h:VwIn k wd w)(kind:Int)(ps:List Int)(m:Nat)(hm:ps.length=m)(Ci:m<=10000)(dN:∀ p∈ps,p<k.n)(pA:Option Addr)(pc:Nat)(hP:SlR ei 1 w w.heap.size (.slice pA m pc) ps) :
 Calls prog 265 #[.pointer (some ⟨k.V,0,none⟩),.int .i64 kind,.slice pA m pc] w λe w'=>∃ A n c,e = .returned (.agg #[.int .i64 kind,.slice A n c,.string ⟨#[]⟩])/\Below w.heap.size w w':=
 Yi k.A k.n k.c k.xs hk.len (by have:=hk.few;omega) hk.fewd k.V kind ps m hm Ci dN pA pc w h.lt (h.all hk) (h.cells 1 _ rfl) hP
theorem TQ{w:World}{B b c:Nat}(ps:List Int)(hc:∀ i x,ps[i]?=some x->w.cell? ⟨b,i,none⟩=some (.int .i64 x))(hb:b<B)(hl:ps.length<=c)(h6:ps.length<=10000):SlR ei 1 w B (.slice (some ⟨b,0,none⟩) ps.length c) ps:=
 ⟨_,c,rfl,hl,by omega,λi x hx=>⟨b,0,[.int .i64 x],rfl,hb,rfl,λj v hj=>by
  cases j with
  | zero=>
   simp only[List.getElem?_cons_zero,Option.some.injEq] at hj;subst hj;simpa using hc i x hx
  | succ j=>simp at hj,rfl⟩⟩
theorem xz{w:World}{B b m:Nat}(ps:List Int)(hc:ic w b (ps.map (Value.int .i64)))(hb:b<B)(hm:ps.length=m)(h6:m<=10000):SlR ei 1 w B (.slice (some ⟨b,0,none⟩) m m) ps:=by
 subst hm;exact TQ ps (λi x hx=>hc i _ (by rw[List.getElem?_map,hx];rfl)) hb (bQ _) h6
def mX(k:VwS)(w:World)(c:Int->Bool->Prop)(e:Ending)(w':World):Prop:=
 ∃ (kd:Int) (A:Option Addr) (n m:Nat) (cs:ByteArray) (d:Bool),e = .returned (.tuple #[.agg #[.int .i64 kd,.slice A n m,.string cs],.bool d])/\c kd d/\w.grownBy w' (some k.V)/\∃ wd',VwIn k wd' w'
theorem pu{w w':World}{b:Nat}(h:Below w.heap.size w w'):w.grownBy w' (some b):=⟨h.os,h.tape,h.output,h.size,λi hi _=>h.block i hi⟩
theorem FI{w w':World}{b:Nat}(h:w.grownBy w' (some b)){p:Addr}(hp:w.heap.size<=p.block\/p.block=b)(u:Value):w.grownBy (w'.setCell p u) (some b):=by
 obtain⟨h1,h2,h3,h4,h5⟩:=h;refine⟨h1,h2,h3,by simpa [World.setCell] using h4,λi hi hne=>?_⟩;have h6:p.block≠i:=λe=>by
  rcases hp with hp | hp
  ·omega
  ·exact hne (by rw[<-e,hp])
 simp only[World.setCell,Array.getElem?_modify];rw[Qc h6];exact h5 i hi hne
theorem aUX{w w':World}{b:Nat}(h:w.grownBy w' (some b))(hb:b<=w.heap.size):Below b w w':=by
 obtain⟨h1,h2,h3,h4,h5⟩:=h;exact⟨h1,h2,h3,h4,λi hi=>h5 i (by omega) (λe=>by have:=Option.some.inj e;omega)⟩
theorem FY{fn:Func}{p u:Tmp}{ty:TypeId}(h:fn.results = #[.cell p ty,.tmp u])(tmps:Array Value)(P:Program)(w:World)(g:Nat)(v x:Value)(hp:tmps.getD p undef = .pointer (some ⟨g,0,none⟩))(hl:(loadVar ty ⟨g,0,none⟩).run P w = .ok v w)(hu:tmps.getD u undef=x) :
 (results fn tmps).run P w = .ok (.tuple #[v,x]) w:=by
 have hp':tmps[p]?.getD undef = .pointer (some ⟨g,0,none⟩):=by simpa using hp
 have hu':tmps[u]?.getD undef=x:=by simpa using hu
 rw[results_cell_tmp h];simp[asAddr,hp',hu',hl,Result.andThen]
theorem qg{fn:Func}{k:VwS}{w w4:World}{R:Nat}{c:Int->Bool->Prop}{wd:ByteArray}(nJ:fn.results = #[.cell 2 104,.tmp 3])(hk:VwOk k)(hI:VwIn k wd w4)(hB:w.grownBy w4 (some k.V))(hR:w.heap.size=R)(hV:k.V<R){v0 v1 v2:Value}
 (hb:w4.heap[R]?=some (.cells #[v0,v1,v2] 104 (0,0))) (kd:Int) (A:Option Addr) (n m:Nat) (s:ByteArray) (d:Bool) (hc:c kd d) (a:Act) (ha:a.defers = []) (h2:a.tmps.getD 2 undef = .pointer (some ⟨R,0,none⟩)) (h3:a.tmps.getD 3 undef = .bool d) :
 bodyPost prog fn (mX k w c) Exit.ret a (((w4.setCell ⟨R,0,none⟩ (.int .i64 kd)).setCell ⟨R,1,none⟩ (.slice A n m)).setCell ⟨R,2,none⟩ (.string s)):=by
 obtain⟨wz,gi⟩:=afZ (((w4.setCell ⟨R,0,none⟩ (.int .i64 kd)).setCell ⟨R,1,none⟩ (.slice A n m)).setCell ⟨R,2,none⟩ (.string s));rw[gi];have pL:wz.heap[R]?=some (.cells #[.int .i64 kd,.slice A n m,.string s] 104 (0,0)):=by rw[<-gi];simp[World.setCell,Array.getElem?_modify,hb]
 have eS:Below R w4 wz:=by
  rw[<-gi];exact (((vQ R w4).blSe _).blSe _).blSe _
 have nC:=run_loadVar_row (P:=prog) _ _ 104 104 _ (0,0) _ pL underlying104 rfl (by kernel_rfl);exact bodyPost_ret (FY nJ _ _ _ _ _ _ h2 nC h3) ha ⟨kd,A,n,m,s,d,rfl,hc,by rw[<-gi];exact FI (FI (FI hB (.inl (Nat.le_of_eq hR)) _) (.inl (Nat.le_of_eq hR)) _) (.inl (Nat.le_of_eq hR)) _,wd,hI.keep hk eS hV⟩
theorem xE{k:VwS}{wd:ByteArray}{w:World}{R:Nat}(hk:VwOk k)(h:VwIn k wd w)(hR:w.heap.size=R):∃ wa,Hid (VwOk k)/\Hid (VwIn k wd wa)/\Hid (Below w.heap.size w wa)/\Hid (wa.heap[R]?=some (.cells #[.int .i64 0,.slice none 0 0,.string ⟨#[]⟩] 104 (0,0)))/\R+1<=wa.heap.size/\k.V<R/\w.alloc (.cells #[.int .i64 0,.slice none 0 0,.string ⟨#[]⟩] 104)=wa:=by
 have dW:Below w.heap.size w (w.alloc (.cells #[.int .i64 0,.slice none 0 0,.string ⟨#[]⟩] 104)):=blAl;exact⟨_,jq hk,jq (h.keep hk dW h.lt),jq dW,jq (by rw[<-hR];exact heap_alloc_new _ _),by simp[hR],by rw[<-hR];exact h.lt,rfl⟩
theorem Zn(k:VwS)(hk:VwOk k)(wd:ByteArray)(w:World)(h:VwIn k wd w) :
 Calls prog 191 #[.pointer (some ⟨k.V,0,none⟩)] w (mX k w λkd d=>kd=1/\(d=true↔Np.fS k.xs k.nm.data.toList k.ty)):=by
 have HK:=jq hk;have HI:=jq h;have EI:=h.lt;clear hk h;obtain⟨R,hR⟩:=afZ w.heap.size;obtain⟨wa,bg⟩:=afZ (w.alloc (.cells #[.int .i64 0,.slice none 0 0,.string ⟨#[]⟩] 104));have dW:Below w.heap.size w wa:=by rw[<-bg];exact blAl
 have In:Hid (wa.heap[R]?=some (.cells #[.int .i64 0,.slice none 0 0,.string ⟨#[]⟩] 104 (0,0))):=jq (by rw[<-bg,<-hR];exact heap_alloc_new _ _);have tj:=jq dW;have yd:=jq (HI.out.keep HK.out dW EI);have ky:wa.heap.size=R+1:=by rw[<-bg];simp[hR]
 have c3:=yd.out.cells 3 _ rfl;have c4:=yd.out.cells 4 _ rfl;have gU:k.V<R:=by omega
 clear dW;go_enter func191,ntmps191;go_upto_region 1 with fail
 clear bg;go_still_tail 11,(by kernel_rfl);change wpList prog _ _ _ _ wa.drew;go_wp2_with fail;refine (uB HK.out (wd:=wd) (w:=wa.drew) (yd.out.keep HK.out (vQ wa.heap.size wa).drew yd.out.lt) k.nm k.ty).mono ?_;rintro e w2 ⟨q,wV,l6,rfl,hq,hb⟩;have HQ:=jq hq;have aa:Below wa.heap.size wa w2:=(vQ wa.heap.size wa).drew.trans hb;have ah:=jq (tj.out.trans (aa.mono tj.out.size));have uS:=jq (yd.out.keep HK.out aa yd.out.lt);have gP:=jq ((aa.block R (by omega)).trans In.out);have JB:R+1<=w2.heap.size:=by have:=aa.size;omega
 obtain⟨E,hE⟩:=afZ w2.heap.size;obtain⟨w3,eF⟩:=afZ (w2.alloc (.cells #[.int .i64 q] 3));have ai:Below w2.heap.size w2 w3:=by rw[<-eF];exact blAl
 have HP:=jq (xz (B:=w3.heap.size) (b:=E) [q] (eb [.int .i64 q] 3 hE eF) (by rw[<-eF];simp[hE]) rfl (by simp));have aw:=jq (ah.out.trans (ai.mono ah.out.size));have uT:=jq (uS.out.keep HK.out ai uS.out.lt);have qC:=jq ((ai.block R (by omega)).trans gP.out);have hR3:R+1<=w3.heap.size:=by have:=ai.size;omega
 clear hq hb aa ai;go_wp2_with fail
 try clear eF
 refine (uA HK.out uT.out 1 [q] 1 rfl (by decide) (λp hp=>by simp only[List.mem_singleton] at hp;omega) _ 1 HP.out).mono ?_;rintro e w4 ⟨aA,an,ac,rfl,hb⟩;have bi:=jq (aw.out.trans (hb.mono aw.out.size));have x9:=jq (uT.out.keep HK.out hb uT.out.lt);have AL:=jq ((hb.block R (by omega)).trans qC.out);have kR:=ek [_,_,_] AL.out;have kR0:=kR 0 _ rfl;have kR1:=kR 1 _ rfl;have kR2:=kR 2 _ rfl;have fR:∀ i,w4.frozen? ⟨R,i,none⟩=false:=λi=>by simp[World.frozen?,AL.out]
 clear hb;go_wp2_with fail;exact qg rfl HK.out x9.out (pu bi.out) hR gU AL.out 1 aA an ac _ _ ⟨rfl,by rw[decide_eq_true_iff];exact HQ.out⟩ _ rfl rfl rfl
theorem aRK(A:Option Addr)(n c:Nat)(xs:List (List UInt8))(hn:xs.length=n)(h0:0<n)(QJ:n<=1000)(hs:∀ x∈xs,x.length<=1000)(w:World)(h:SlR RTx 1 w w.heap.size (.slice A n c) xs) :
 Calls prog 334 #[.slice A n c] w λe w'=>∃ (r:ByteArray) (er:Int),e = .returned (.tuple #[.string r,.int .i64 er])/\(er=0->Np.al r.data.toList=true)/\Below w.heap.size w w':=by
 obtain⟨A',c',hA,hc,_,he⟩:=h;simp only[Value.slice.injEq] at hA;obtain⟨rfl,-,rfl⟩:=hA;obtain⟨x0,eG⟩:∃ x,xs[0]?=some x:=⟨_,aQ (by omega)⟩;obtain⟨b,o,_,rfl,hb,_,_,_⟩:=he 0 x0 eG;refine aRJ b o c (xs.map λx=>⟨x.toArray⟩) n (by rw[List.length_map,hn]) h0 QJ (λs hm=>?_) w (λj s hj=>?_) hb (by omega)
 ·obtain⟨x,hx,rfl⟩:=List.mem_map.1 hm;exact hs x hx
 ·rw[List.getElem?_map] at hj
  cases xk:xs[j]? with
  | none=>rw[xk] at hj;cases hj
  | some x=>
   rw[xk] at hj
   cases hj
   obtain⟨b',o',e,hA,_,_,hce,s,qX,_,rfl⟩:=he j x xk
   cases hA
   have h1:=hce 0 _ rfl;rw[show o+j * 1+0=o+j by omega] at h1;rw[h1];congr 2;exact iC (by rw[qX])
theorem Tryz.infoStrH:(prog.info? 9).map (λi=>(i.zero,i.size,i.bytes))=some (some (.string ⟨#[]⟩),1,16):=by kernel_rfl
theorem aWQ(w:World)(s:ByteArray)(hs:s.size<=140737488355328):bD RTx 1 9 w.heap.size w.heap.size (w.alloc (.cells #[.string s] 9)) (.slice (some ⟨w.heap.size,0,none⟩) 1 1) [s.data.toList]:=
 ⟨[[.string s]],rfl,World.ownsRow_lit w #[.string s] 1 (bQ _) (by simp[maxLen]) rfl,λi r x hr hx=>by
   cases i with
   | zero=>
    simp only[List.getElem?_cons_zero,Option.some.injEq] at hr hx;subst hr hx;exact⟨rfl,s,rfl,hs,rfl⟩
   | succ i=>simp at hr⟩
theorem abQ(k:VwS)(hk:VwOk k)(wd:ByteArray)(w:World)(h:VwIn k wd w) :
 Calls prog 269 #[.pointer (some ⟨k.V,0,none⟩)] w λe w'=>∃ r:ByteArray,e = .returned (.string r)/\(r=⟨#[]⟩\/Np.al r.data.toList=true)/\r.size<=140737488355328/\Below w.heap.size w w':=by
 have HK:=jq hk;have HI:=jq h;have EI:=h.lt;have c3:=h.cells 3 _ rfl;clear hk h;go_enter func269,ntmps269;go_wp2_with fail;clear c3;go_loopw [3] (λv wr=>∃ p:ByteArray,v = .string p/\p.size<=140737488355328/\Hid (Np.al p.data.toList=true/\Np.aX p.data.toList k.ap.data.toList=true)/\Hid (Below w.heap.size w wr)) (λv _=>(Np.bO (Rf v)).length)
 case atStart=>exact⟨k.nm,rfl,HK.out.nm2,jq ⟨HK.out.nm1,HK.out.under⟩,jq (vQ _ _)⟩
 case round=>
  obtain⟨p,rfl,wS,HP,HB⟩:=hrel;obtain⟨ws,rfl⟩:=afJ wr;have ye:=jq (HI.out.keep HK.out HB.out EI);have c0:=ye.out.cells 0 _ rfl;have hVr:=ye.out.lt;by_cases sD:p=k.ap
  case' pos=>
   have av:(!p.toList == k.ap.toList)=false:=by simp[sD]
   clear sD;go_wp2_with fail;have GJ:Hid (Below w.heap.size w ws):=HB;clear HB;obtain⟨wx,rfl⟩:=afJ ws
  case' neg=>
   have dY:p.data.toList≠k.ap.data.toList:=λh=>sD (iC h);have av:(!p.toList == k.ap.toList)=true:=by
    rw[dQ,dQ];simpa using dY
   have gl:=jq dY;clear dY sD;go_wp2_with fail;refine (LO HK.out ye.out p wS HP.out.1).mono ?_;rintro e w2 ⟨b,rfl,hb⟩;have ah:=jq (HB.out.trans (hb.mono HB.out.size));clear hb
   cases b
   case' false=>
    have un:=Np.SU HP.out.1 (Rg HK.out.ap1) HP.out.2 gl.out;have n7:=jq un;clear un;go_wp2_with fail;refine (SO p wS HP.out.1 n7.out.1 w2).mono ?_;rintro e w8 ⟨q,rfl,hq,nH,hb⟩;have fd:=jq (ah.out.trans (hb.mono ah.out.size));have HQ:=jq hq;clear hb hq;go_wp2_with fail;go_roundw
    case rel=>exact⟨q,rfl,nH,jq ⟨by rw[HQ.out];exact (Np.FK HP.out.1 n7.out.1).1,by rw[HQ.out];exact n7.out.2⟩,fd⟩
    case measure=>
     show (Np.bO q.data.toList).length<(Np.bO p.data.toList).length;rw[HQ.out];exact Np.SR HP.out.1 n7.out.1
   case' true=>
    go_wp2_with fail;have GJ:Hid (Below w.heap.size w w2):=ah;clear HB ah gl;obtain⟨wx,rfl⟩:=afJ w2
  all_goals
   refine (labels_any p HP.out.1 wx).mono ?_;rintro e w3 ⟨⟨v,rfl,hl⟩,hb⟩;have aw:=jq (GJ.out.trans (hb.mono GJ.out.size));obtain⟨lA,ln,lc,rfl,wI,Kl,_⟩:=xB hl;have Kk:ln<=500:=by
    rw[<-wI];have h1:=D.IQ HP.out.1;rw[<-Np.rg,List.length_reverse] at h1;omega
   have kU:Hid (∀ x∈([42]:List UInt8)::Np.bO p.data.toList,x.length<=1000):=jq (λx hx=>by
    rcases List.mem_cons.1 hx with rfl | hx
    ·simp
    ·have h1:=Np.Bi (l:=p.data.toList) (y:=x) (by rw[<-Np.rg];exact List.mem_reverse.2 hx);rw[bj] at h1
     have:=uu HP.out.1
     omega)
   obtain⟨ps,dN⟩:=afZ (Np.bO p.data.toList);rw[dN] at hl wI kU;subst wI;have HL:=jq hl;obtain⟨wb,eW⟩:=afZ (w3.alloc (.cells #[.string ⟨#[42]⟩] 9));have HO:Hid (bD RTx 1 9 w3.heap.size w3.heap.size wb (.slice (some ⟨w3.heap.size,0,none⟩) 1 1) [[42]]):=jq (by rw[<-eW];exact aWQ w3 ⟨#[42]⟩ (by decide));have cW:Below w3.heap.size w3 wb:=by rw[<-eW];exact blAl
   have iz:w3.heap.size<=wb.heap.size:=cW.size;have Ag:=jq (aw.out.trans (cW.mono aw.out.size));have Wh:=jq (HL.out.keep jt cW);obtain⟨i0,ki,dP,bF,aO⟩:=info_parts Tryz.infoStrH;clear hl hb dN cW;go_wp2_with (at_builtin;refine De (R:=RTx) (sz:=1) wb rfl _ _ 116 rfl w3.heap.size w3.heap.size 9 i0 (.string ⟨#[]⟩) 16 underlying116 ki dP bF aO rfl (by decide) _ [[42]] rfl HO.out lA lc w3.heap.size ps rfl Wh.out (λr y h=>by (obtain⟨s,_,_,rfl⟩:=h;intro u hu;simp at hu;subst hu;rfl)) (by simp[maxLen];omega) (by simp;omega) iz (bQ _) (bQ _) jt zI ?_;intro v4 w4 jP ar EV;have H4:=jq (And.intro jP (And.intro (yQ iz ar.size) (Ag.out.trans (ar.mono aw.out.size))));clear jP ar EV);have pn:=jq (H4.out.1.slr zI H4.out.2.1 (by simp;omega));obtain⟨jA,jn,jc,rfl,qS,_,_⟩:=xB pn.out;have qR:jn=ps.length+1:=by rw[<-qS];simp
   have VX:=jq qS;clear qS;refine (aRK jA jn jc ([[42]]++ps) VX.out (by omega) (by omega) kU.out w4 pn.out).mono ?_;rintro e w5 ⟨r,er,rfl,hr,hb⟩;have cg:=jq (H4.out.2.2.trans (hb.mono H4.out.2.2.size));have HR:=jq hr;clear hr hb;by_cases he:er=0
   ·subst he;have HV:=jq (HR.out rfl);go_wp2_with fail;go_ret;exact⟨_,rfl,.inr HV.out,by have:=uu HV.out;omega,cg.out⟩
   ·have gW:(er != 0)=true:=by simpa using he
    clear he;go_wp2_with fail;go_ret;exact⟨_,rfl,.inl rfl,by decide,cg.out⟩
def gt(V:Nat)(nm:ByteArray)(e2:Value)(e9:Value)(e10:Value)(e11:Value)(i:Nat):Value:=[.pointer (some ⟨V,0,none⟩),.pointer (some ⟨V,0,none⟩),e2,.pointer (some ⟨V,0,none⟩),.pointer (some ⟨V,0,none⟩),.pointer (some ⟨V,0,none⟩),.pointer (some ⟨V,3,none⟩),.pointer (some ⟨V,3,none⟩),.string nm,e9,e10,e11,undef,.bool true].getD i undef
def g9(i:Nat):Nat:=[11,12,13,14,15,16,17,18,19,20,21,22,1,3].getD i 0
def aBZ:List Nat:=[0,1,3,4,5,6,7,8,2,9,10,11].map g9
theorem sI:∀ i∈[0,1,3,4,5,6,7,8,2,9,10,11],g9 i<29/\g9 i∈aBZ:=by decide
theorem sJ:∀ i∈[0,1,3,4,5,6,7,8,2,9,10,11],∀ j∈[0,1,3,4,5,6,7,8,2,9,10,11],j≠i->g9 i≠g9 j:=by decide
def aBJ:List Nat:=[0,1,3,4,5,6,7,8,2,9,10,11,12].map g9
theorem Rl:∀ i∈[0,1,3,4,5,6,7,8,2,9,10,11,12],g9 i<29/\g9 i∈aBJ:=by decide
theorem aBQ:∀ i∈[0,1,3,4,5,6,7,8,2,9,10,11,12],∀ j∈[0,1,3,4,5,6,7,8,2,9,10,11,12],j≠i->g9 i≠g9 j:=by decide
def fx(V:Nat)(nm wd:ByteArray)(e2:Value)(e9:Value)(e15:Value)(e16:Value)(e17:Value)(i:Nat):Value:=[.pointer (some ⟨V,0,none⟩),.pointer (some ⟨V,0,none⟩),e2,.pointer (some ⟨V,0,none⟩),.pointer (some ⟨V,0,none⟩),.pointer (some ⟨V,0,none⟩),.pointer (some ⟨V,3,none⟩),.pointer (some ⟨V,3,none⟩),.string nm,e9,.pointer (some ⟨V,0,none⟩),.pointer (some ⟨V,0,none⟩),.pointer (some ⟨V,0,none⟩),.pointer (some ⟨V,7,none⟩),.string wd,e15,e16,e17,undef,.bool true].getD i undef
def gu(i:Nat):Nat:=[19,20,21,22,23,24,25,26,27,28,29,30,31,32,33,34,35,36,1,3].getD i 0
def aCK:List Nat:=[0,1,3,4,5,6,7,8,10,11,12,13,14,2,9,15,16,17].map gu
theorem pU:∀ i∈[0,1,3,4,5,6,7,8,10,11,12,13,14,2,9,15,16,17],gu i<37/\gu i∈aCK:=by decide
theorem pV:∀ i∈[0,1,3,4,5,6,7,8,10,11,12,13,14,2,9,15,16,17],∀ j∈[0,1,3,4,5,6,7,8,10,11,12,13,14,2,9,15,16,17],j≠i->gu i≠gu j:=by decide
def aCX:List Nat:=[0,1,3,4,5,6,7,8,10,11,12,13,14,2,9,15,16,17,18].map gu
theorem Rt:∀ i∈[0,1,3,4,5,6,7,8,10,11,12,13,14,2,9,15,16,17,18],gu i<37/\gu i∈aCX:=by decide
theorem aCJ:∀ i∈[0,1,3,4,5,6,7,8,10,11,12,13,14,2,9,15,16,17,18],∀ j∈[0,1,3,4,5,6,7,8,10,11,12,13,14,2,9,15,16,17,18],j≠i->gu i≠gu j:=by decide
theorem aSY(k:VwS)(hk:VwOk k)(wd:ByteArray)(w:World)(h:VwIn k wd w) :
 Calls prog 193 #[.pointer (some ⟨k.V,0,none⟩)] w (mX k w λkd d=>d=true->kd≠1):=by
 obtain⟨R,hR⟩:=afZ w.heap.size;obtain⟨wa,HK,cK,fM,iG,li,gU,bg⟩:=xE hk h hR;clear hk;go_enter func193,ntmps193;have c3:=cK.out.cells 3 _ rfl;go_wp2_with fail
 try rw[bg]
 try clear bg
 refine (LO HK.out cK.out k.nm HK.out.nm2 HK.out.nm1).mono ?_;rintro e wp ⟨b,rfl,aa⟩;have ie:=jq (fM.out.trans (aa.mono fM.out.size));have ea:=jq (cK.out.keep HK.out aa cK.out.lt);have kW:=jq ((aa.block R (by omega)).trans iG.out);have nn:R+1<=wp.heap.size:=yQ li aa.size;replace c3:=ea.out.cells 3 _ rfl;clear aa
 cases b with
 | true=>
  go_upto_region 2 with fail
  obtain⟨wd0,aU⟩:=afJ wp.drew;have aa:Below wp.heap.size wp wd0:=by rw[aU];exact (vQ _ _).drew
  have mj:=jq (ie.out.trans (aa.mono ie.out.size));have gb:=jq (ea.out.keep HK.out aa ea.out.lt);have rD:=jq ((aa.block R (by omega)).trans kW.out);have rP:R+1<=wd0.heap.size:=yQ nn aa.size;replace c3:=gb.out.cells 3 _ rfl;clear aa;refine zT λa0 aV=>?_;have gz:=jq aV;have eh:=jq (show a0.eval (.tmp 0) = .pointer (some ⟨k.V,0,none⟩) by rw[aV];rfl);have dU:=jq (show a0.eval (.tmp 1)=undef by rw[aV];rfl);have fN:=jq (show a0.eval (.tmp 2) = .pointer (some ⟨R,0,none⟩) by rw[aV];rfl);have HM:=jq (show a0.tmps.size=29 by rw[aV];rfl);clear aV;refine wp_region_any (by kernel_rfl) ?_;change wpAny prog .any _ _ _ _ _ wp.drew;rw[<-aU];clear aU;refine dt 2 (D:=[0,1,3,4,5,6,7,8]) (val:=gt k.V k.nm undef undef undef undef) sI sJ (rY HM.out) (by kernel_rfl) ?_ ?_
  ·intro i az aC o ho a' hb aq;have k0':=agK hb eh.out;simp[Act.eval] at k0'
   repeat' (rcases az with _ | ⟨_,az⟩)
   all_goals first
    | (exfalso;simp at aC;done)
    | (cases ho
       try simp[Act.eval,Region.binds,gt,g9] at aq
       refine dh (by simp[Region.wanted]) ?_;simp[Oper.quietAt,Oper.quietUpon,execOp,go_sem,gt,k0',c3,aq])
  ·intro f listed a' hH hr hv;have av1:=hv 1;simp[Act.eval,gt,g9] at av1;simp only[wpOp];simp[Region.wanted];refine .inl ?_;simp[Oper.wp,go_sem,av1];refine (LP HK.out gb.out).mono ?_;rintro e wc0 ⟨q0,Q0,Q1,rfl,aa⟩;have tg:=jq (mj.out.trans (aa.mono mj.out.size));have lH:=jq (gb.out.keep HK.out aa gb.out.lt);have AO:=jq ((aa.block R (by omega)).trans rD.out);have BG:R+1<=wc0.heap.size:=yQ rP aa.size;replace c3:=lH.out.cells 3 _ rfl;clear aa;dsimp only;refine dt 9 (D:=[0,1,3,4,5,6,7,8,2]) (val:=gt k.V k.nm (.int .i64 q0) undef undef undef) sI sJ (hH.next sI sJ hr) (by kernel_rfl) ?_ ?_
   ·intro i az aC o ho a' hb aq;have k0':=agK hb eh.out;simp[Act.eval] at k0'
    repeat' (rcases az with _ | ⟨_,az⟩)
    all_goals first
     | (exfalso;simp at aC;done)
     | (cases ho
        try simp[Act.eval,Region.binds,gt,g9] at aq
        refine dh (by simp[Region.wanted]) ?_;simp[Oper.quietAt,Oper.quietUpon,execOp,go_sem,gt,k0',c3,aq])
   ·intro f listed a' hH hr hv;have av3:=hv 3;have av8:=hv 8;simp[Act.eval,gt,g9] at av3 av8;simp only[wpOp];simp[Region.wanted];refine .inl ?_;simp[Oper.wp,go_sem,av3,av8];refine (xG HK.out lH.out k.nm HK.out.nm2 HK.out.nm1).mono ?_;rintro e wc ⟨qc,Fg,Fh,rfl,aa⟩;have mi:=jq (tg.out.trans (aa.mono tg.out.size));have gO:=jq (lH.out.keep HK.out aa lH.out.lt);have rC:=jq ((aa.block R (by omega)).trans AO.out);have rO:R+1<=wc.heap.size:=yQ BG aa.size;replace c3:=gO.out.cells 3 _ rfl;clear aa;dsimp only;refine dt 10 (D:=[0,1,3,4,5,6,7,8,2,9]) (val:=gt k.V k.nm (.int .i64 q0) (.int .i64 qc) undef undef) sI sJ (hH.next sI sJ hr) (by kernel_rfl) ?_ ?_
    ·intro i az aC o ho a' hb aq;have k0':=agK hb eh.out;simp[Act.eval] at k0'
     repeat' (rcases az with _ | ⟨_,az⟩)
     all_goals first
      | (exfalso;simp at aC;done)
      | (cases ho
         try simp[Act.eval,Region.binds,gt,g9] at aq
         refine dh (by simp[Region.wanted]) ?_;simp[Oper.quietAt,Oper.quietUpon,execOp,go_sem,gt,k0',c3,aq])
    ·intro f listed a' hH hr hv;have av2:=hv 2;have av9:=hv 9;simp[Act.eval,gt,g9] at av2 av9;simp only[wpOp];simp[Region.wanted];refine .inl ?_;simp[Oper.wp,execOp,go_sem,av2,av9];obtain⟨wx,aU⟩:=afJ (wc.alloc (.cells #[.int .i64 q0,.int .i64 qc] 3));rw[<-aU];have aa:Below wc.heap.size wc wx:=by rw[aU];exact blAl
     have HP:=jq (xz (w:=wx) (B:=wx.heap.size) (b:=wc.heap.size) [q0,qc] (eb [.int .i64 q0,.int .i64 qc] 3 rfl aU.symm) (by rw[aU];simp) rfl (by simp));have jX:=jq (mi.out.trans (aa.mono mi.out.size));have ee:=jq (gO.out.keep HK.out aa gO.out.lt);have pi:=jq ((aa.block R (by omega)).trans rC.out);have pB:R+1<=wx.heap.size:=yQ rO aa.size;replace c3:=ee.out.cells 3 _ rfl;clear aU aa;refine dt 11 (D:=[0,1,3,4,5,6,7,8,2,9,10]) (val:=gt k.V k.nm (.int .i64 q0) (.int .i64 qc) (.slice (some ⟨wc.heap.size,0,none⟩) 2 2) undef) sI sJ (hH.next sI sJ hr) (by kernel_rfl) ?_ ?_
     ·intro i az aC o ho a' hb aq;have k0':=agK hb eh.out;simp[Act.eval] at k0'
      repeat' (rcases az with _ | ⟨_,az⟩)
      all_goals first
       | (exfalso;simp at aC;done)
       | (cases ho
          try simp[Act.eval,Region.binds,gt,g9] at aq
          refine dh (by simp[Region.wanted]) ?_;simp[Oper.quietAt,Oper.quietUpon,execOp,go_sem,gt,k0',c3,aq])
     ·intro f listed a' hH hr hv;have av0:=hv 0;have av10:=hv 10;simp[Act.eval,gt,g9] at av0 av10;simp only[wpOp];simp[Region.wanted];refine .inl ?_;simp[Oper.wp,go_sem,av0,av10];refine (uA HK.out ee.out 5 [q0,qc] 2 rfl (by decide) (λp hp=>by simp only[List.mem_cons,Qh,or_false] at hp;omega) _ 2 HP.out).mono ?_;rintro e wy ⟨aA,an,ac,rfl,aa⟩;have lG:=jq (jX.out.trans (aa.mono jX.out.size));have ig:=jq (ee.out.keep HK.out aa ee.out.lt);have gC:=jq ((aa.block R (by omega)).trans pi.out);have BH:R+1<=wy.heap.size:=yQ pB aa.size;replace c3:=ig.out.cells 3 _ rfl;clear aa;dsimp only;refine dt 12 (D:=[0,1,3,4,5,6,7,8,2,9,10,11]) (val:=gt k.V k.nm (.int .i64 q0) (.int .i64 qc) (.slice (some ⟨wc.heap.size,0,none⟩) 2 2) (.agg #[.int .i64 5,.slice aA an ac,.string ⟨#[]⟩])) sI sJ (hH.next sI sJ hr) (by kernel_rfl) ?_ ?_
      ·intro i az aC o ho a' hb aq;have k0':=agK hb eh.out;simp[Act.eval] at k0'
       repeat' (rcases az with _ | ⟨_,az⟩)
       all_goals first
        | (exfalso;simp at aC;done)
        | (cases ho
           try simp[Act.eval,Region.binds,gt,g9] at aq
           refine dh (by simp[Region.wanted]) ?_;simp[Oper.quietAt,Oper.quietUpon,execOp,go_sem,gt,k0',c3,aq])
      ·intro f listed a' hH hr hv;have av11:=hv 11;simp[Act.eval,gt,g9] at av11;simp only[wpOp];simp[Region.wanted];refine .inl ?_;have kR:=ek [_,_,_] gC.out;have kR0:=kR 0 _ rfl;have kR1:=kR 1 _ rfl;have kR2:=kR 2 _ rfl;have fR:∀ i,wy.frozen? ⟨R,i,none⟩=false:=λi=>by simp[World.frozen?,gC.out]
       have k2':=(aJ hH.good.base (j:=2) (by decide) (by decide)).trans fN.out;simp[Act.eval] at k2';simp[Oper.wp,execOp,go_sem,av11,kR0,kR1,kR2,fR,k2'];obtain⟨ws,aU⟩:=afJ (((wy.setCell ⟨R,0,none⟩ (.int .i64 5)).setCell ⟨R,1,none⟩ (.slice aA an ac)).setCell ⟨R,2,none⟩ (.string ⟨#[]⟩));rw[<-aU];have aa:Below R wy ws:=by rw[aU];exact (((vQ R wy).blSe _).blSe _).blSe _
       have th:=aeX lG aa;have lI:=jq (ig.out.keep HK.out aa gU);replace c3:=lI.out.cells 3 _ rfl;clear aa kR kR0 kR1 kR2 fR k2';refine dt 13 (D:=[0,1,3,4,5,6,7,8,2,9,10,11,12]) (val:=gt k.V k.nm (.int .i64 q0) (.int .i64 qc) (.slice (some ⟨wc.heap.size,0,none⟩) 2 2) (.agg #[.int .i64 5,.slice aA an ac,.string ⟨#[]⟩])) Rl aBQ (hH.skip hr (hv:=dU.out.symm)) (by kernel_rfl) ?_ ?_
       ·intro i az aC o ho a' hb aq;have k0':=agK hb eh.out;simp[Act.eval] at k0'
        repeat' (rcases az with _ | ⟨_,az⟩)
        all_goals first
         | (exfalso;simp at aC;done)
         | (cases ho
            try simp[Act.eval,Region.binds,gt,g9] at aq
            refine dh (by simp[Region.wanted]) ?_;simp[Oper.quietAt,Oper.quietUpon,execOp,go_sem,gt,k0',c3,aq])
       ·intro f listed a' hH hr hv;simp only[wpOp];simp[Region.wanted];refine .inl ?_;simp[Oper.wp,execOp,go_sem];refine uD hH hr HM.out Rl (by kernel_rfl) λfE=>?_;rw[fE];rw[gz.out];simp[iA,Act.put,gt,g9];clear hv hH fE;rw[aU];clear aU;go_wp2_with fail;exact qg rfl HK.out ig.out (pu lG.out) hR gU gC.out 5 aA an ac _ _ (λ_=>by decide) _ rfl rfl rfl
 | false=>
  go_wp2_with fail;refine (abQ k HK.out wd wp ea.out).mono ?_;rintro e wf ⟨r,rfl,gJ,zi,aa⟩;replace c3:=ea.out.cells 3 _ rfl;have UZ:=jq (ie.out.trans (aa.mono ie.out.size));have DG:=jq (ea.out.keep HK.out aa ea.out.lt);have W8:=jq ((aa.block R (by omega)).trans kW.out);have bBQ:R+1<=wf.heap.size:=yQ nn aa.size;replace c3:=DG.out.cells 3 _ rfl;have c7:=DG.out.cells 7 _ rfl;have f7:wf.frozen? ⟨k.V,7,none⟩=false:=by simp[World.frozen?,DG.out.blk]
  have VW:=jq (DG.out.wild HK.out gJ zi);have xT:Hid (w.grownBy (wf.setCell ⟨k.V,7,none⟩ (.string r)) (some k.V)):=jq (FI (pu UZ.out) (.inr rfl) _);have Io:Hid ((wf.setCell ⟨k.V,7,none⟩ (.string r)).heap[R]?=some (.cells #[.int .i64 0,.slice none 0 0,.string ⟨#[]⟩] 104 (0,0))):=jq (by
   simp only[World.setCell,Array.getElem?_modify];rw[Qc (by omega)];exact W8.out)
  have kR:=ek [_,_,_] Io.out;have kR0:=kR 0 _ rfl;have kR1:=kR 1 _ rfl;have kR2:=kR 2 _ rfl;have fR:∀ i,(wf.setCell ⟨k.V,7,none⟩ (.string r)).frozen? ⟨R,i,none⟩=false:=λi=>by simp only[World.frozen?,Io.out];rfl
  clear aa;go_wp2_with fail;exact qg rfl HK.out VW.out xT.out hR gU Io.out 0 none 0 0 ⟨#[]⟩ false (λh=>by cases h) _ rfl rfl rfl
theorem bqZ(k:VwS)(hk:VwOk k)(wd:ByteArray)(w:World)(h:VwIn k wd w) :
 Calls prog 196 #[.pointer (some ⟨k.V,0,none⟩)] w (mX k w λkd d=>d=true->kd≠1):=by
 obtain⟨R,hR⟩:=afZ w.heap.size;obtain⟨wa,HK,cK,fM,iG,li,gU,bg⟩:=xE hk h hR;clear hk;go_enter func196,ntmps196;have c7:=cK.out.cells 7 _ rfl;by_cases mF:wd=⟨#[]⟩
 ·subst mF;have kR:=ek [_,_,_] iG.out;have kR0:=kR 0 _ rfl;have kR1:=kR 1 _ rfl;have kR2:=kR 2 _ rfl;have fR:∀ i,wa.frozen? ⟨R,i,none⟩=false:=λi=>by simp[World.frozen?,iG.out]
  go_wp2_with fail;exact qg rfl HK.out cK.out (pu fM.out) hR gU iG.out 0 none 0 0 ⟨#[]⟩ false (λh=>by cases h) _ rfl rfl rfl
 ·have am:(wd.toList == [])=false:=by
   simp only[beq_eq_false_iff_ne,ne_eq,dQ];exact λe=>mF (iC e)
  have HW:Hid (Np.al wd.data.toList=true/\wd.size<=140737488355328):=jq ⟨h.wd1.resolve_left mF,h.wd2⟩;clear mF;go_wp2_with fail
  try rw[bg]
  try clear bg
  refine (LO HK.out cK.out wd HW.out.2 HW.out.1).mono ?_;rintro e wp ⟨b,rfl,aa⟩;have ie:=jq (fM.out.trans (aa.mono fM.out.size));have ea:=jq (cK.out.keep HK.out aa cK.out.lt);have kW:=jq ((aa.block R (by omega)).trans iG.out);have nn:R+1<=wp.heap.size:=yQ li aa.size;have c3:=ea.out.cells 3 _ rfl;replace c7:=ea.out.cells 7 _ rfl;clear aa
  cases b with
  | false=>
   have kR:=ek [_,_,_] kW.out;have kR0:=kR 0 _ rfl;have kR1:=kR 1 _ rfl;have kR2:=kR 2 _ rfl;have fR:∀ i,wp.frozen? ⟨R,i,none⟩=false:=λi=>by simp[World.frozen?,kW.out]
   go_wp2_with fail;exact qg rfl HK.out ea.out (pu ie.out) hR gU kW.out 0 none 0 0 ⟨#[]⟩ false (λh=>by cases h) _ rfl rfl rfl
  | true=>
   go_upto_region 3 with fail
   obtain⟨wd0,aU⟩:=afJ wp.drew;have aa:Below wp.heap.size wp wd0:=by rw[aU];exact (vQ _ _).drew
   have mj:=jq (ie.out.trans (aa.mono ie.out.size));have gb:=jq (ea.out.keep HK.out aa ea.out.lt);have rD:=jq ((aa.block R (by omega)).trans kW.out);have rP:R+1<=wd0.heap.size:=yQ nn aa.size;replace c3:=gb.out.cells 3 _ rfl;replace c7:=gb.out.cells 7 _ rfl;clear aa;refine zT λa0 aV=>?_;have gz:=jq aV;have eh:=jq (show a0.eval (.tmp 0) = .pointer (some ⟨k.V,0,none⟩) by rw[aV];rfl);have dU:=jq (show a0.eval (.tmp 1)=undef by rw[aV];rfl);have fN:=jq (show a0.eval (.tmp 2) = .pointer (some ⟨R,0,none⟩) by rw[aV];rfl);have HM:=jq (show a0.tmps.size=37 by rw[aV];rfl);clear aV;refine wp_region_any (by kernel_rfl) ?_;change wpAny prog .any _ _ _ _ _ wp.drew;rw[<-aU];clear aU;refine dt 2 (D:=[0,1,3,4,5,6,7,8,10,11,12,13,14]) (val:=fx k.V k.nm wd undef undef undef undef undef) pU pV (rY HM.out) (by kernel_rfl) ?_ ?_
   ·intro i az aC o ho a' hb aq;have k0':=agK hb eh.out;simp[Act.eval] at k0'
    repeat' (rcases az with _ | ⟨_,az⟩)
    all_goals first
     | (exfalso;simp at aC;done)
     | (cases ho
        try simp[Act.eval,Region.binds,fx,gu] at aq
        refine dh (by simp[Region.wanted]) ?_;simp[Oper.quietAt,Oper.quietUpon,execOp,go_sem,fx,k0',c3,c7,aq])
   ·intro f listed a' hH hr hv;have av1:=hv 1;simp[Act.eval,fx,gu] at av1;simp only[wpOp];simp[Region.wanted];refine .inl ?_;simp[Oper.wp,go_sem,av1];refine (LP HK.out gb.out).mono ?_;rintro e wc0 ⟨q0,Q0,Q1,rfl,aa⟩;have tg:=jq (mj.out.trans (aa.mono mj.out.size));have lH:=jq (gb.out.keep HK.out aa gb.out.lt);have AO:=jq ((aa.block R (by omega)).trans rD.out);have BG:R+1<=wc0.heap.size:=yQ rP aa.size;replace c3:=lH.out.cells 3 _ rfl;replace c7:=lH.out.cells 7 _ rfl;clear aa;dsimp only;refine dt 9 (D:=[0,1,3,4,5,6,7,8,10,11,12,13,14,2]) (val:=fx k.V k.nm wd (.int .i64 q0) undef undef undef undef) pU pV (hH.next pU pV hr) (by kernel_rfl) ?_ ?_
    ·intro i az aC o ho a' hb aq;have k0':=agK hb eh.out;simp[Act.eval] at k0'
     repeat' (rcases az with _ | ⟨_,az⟩)
     all_goals first
      | (exfalso;simp at aC;done)
      | (cases ho
         try simp[Act.eval,Region.binds,fx,gu] at aq
         refine dh (by simp[Region.wanted]) ?_;simp[Oper.quietAt,Oper.quietUpon,execOp,go_sem,fx,k0',c3,c7,aq])
    ·intro f listed a' hH hr hv;have av3:=hv 3;have av8:=hv 8;simp[Act.eval,fx,gu] at av3 av8;simp only[wpOp];simp[Region.wanted];refine .inl ?_;simp[Oper.wp,go_sem,av3,av8];refine (xG HK.out lH.out k.nm HK.out.nm2 HK.out.nm1).mono ?_;rintro e wc ⟨qc,Fg,Fh,rfl,aa⟩;have mi:=jq (tg.out.trans (aa.mono tg.out.size));have gO:=jq (lH.out.keep HK.out aa lH.out.lt);have rC:=jq ((aa.block R (by omega)).trans AO.out);have rO:R+1<=wc.heap.size:=yQ BG aa.size;replace c3:=gO.out.cells 3 _ rfl;replace c7:=gO.out.cells 7 _ rfl;clear aa;dsimp only;refine dt 15 (D:=[0,1,3,4,5,6,7,8,10,11,12,13,14,2,9]) (val:=fx k.V k.nm wd (.int .i64 q0) (.int .i64 qc) undef undef undef) pU pV (hH.next pU pV hr) (by kernel_rfl) ?_ ?_
     ·intro i az aC o ho a' hb aq;have k0':=agK hb eh.out;simp[Act.eval] at k0'
      repeat' (rcases az with _ | ⟨_,az⟩)
      all_goals first
       | (exfalso;simp at aC;done)
       | (cases ho
          try simp[Act.eval,Region.binds,fx,gu] at aq
          refine dh (by simp[Region.wanted]) ?_;simp[Oper.quietAt,Oper.quietUpon,execOp,go_sem,fx,k0',c3,c7,aq])
     ·intro f listed a' hH hr hv;have av10:=hv 10;have av14:=hv 14;simp[Act.eval,fx,gu] at av10 av14;simp only[wpOp];simp[Region.wanted];refine .inl ?_;simp[Oper.wp,go_sem,av10,av14];refine (xG HK.out gO.out wd HW.out.2 HW.out.1).mono ?_;rintro e wc1 ⟨qd,bMK,bMX,rfl,aa⟩;have Mt:=jq (mi.out.trans (aa.mono mi.out.size));have DF:=jq (gO.out.keep HK.out aa gO.out.lt);have W7:=jq ((aa.block R (by omega)).trans rC.out);have ahX:R+1<=wc1.heap.size:=yQ rO aa.size;replace c3:=DF.out.cells 3 _ rfl;replace c7:=DF.out.cells 7 _ rfl;clear aa;dsimp only;refine dt 16 (D:=[0,1,3,4,5,6,7,8,10,11,12,13,14,2,9,15]) (val:=fx k.V k.nm wd (.int .i64 q0) (.int .i64 qc) (.int .i64 qd) undef undef) pU pV (hH.next pU pV hr) (by kernel_rfl) ?_ ?_
      ·intro i az aC o ho a' hb aq;have k0':=agK hb eh.out;simp[Act.eval] at k0'
       repeat' (rcases az with _ | ⟨_,az⟩)
       all_goals first
        | (exfalso;simp at aC;done)
        | (cases ho
           try simp[Act.eval,Region.binds,fx,gu] at aq
           refine dh (by simp[Region.wanted]) ?_;simp[Oper.quietAt,Oper.quietUpon,execOp,go_sem,fx,k0',c3,c7,aq])
      ·intro f listed a' hH hr hv;have av2:=hv 2;have av9:=hv 9;have av15:=hv 15;simp[Act.eval,fx,gu] at av2 av9 av15;simp only[wpOp];simp[Region.wanted];refine .inl ?_;simp[Oper.wp,execOp,go_sem,av2,av9,av15];obtain⟨wx,aU⟩:=afJ (wc1.alloc (.cells #[.int .i64 q0,.int .i64 qc,.int .i64 qd] 3));rw[<-aU];have aa:Below wc1.heap.size wc1 wx:=by rw[aU];exact blAl
       have HP:=jq (xz (w:=wx) (B:=wx.heap.size) (b:=wc1.heap.size) [q0,qc,qd] (eb [.int .i64 q0,.int .i64 qc,.int .i64 qd] 3 rfl aU.symm) (by rw[aU];simp) rfl (by simp));have jX:=jq (Mt.out.trans (aa.mono Mt.out.size));have ee:=jq (DF.out.keep HK.out aa DF.out.lt);have pi:=jq ((aa.block R (by omega)).trans W7.out);have pB:R+1<=wx.heap.size:=yQ ahX aa.size;replace c3:=ee.out.cells 3 _ rfl;replace c7:=ee.out.cells 7 _ rfl;clear aU aa;refine dt 17 (D:=[0,1,3,4,5,6,7,8,10,11,12,13,14,2,9,15,16]) (val:=fx k.V k.nm wd (.int .i64 q0) (.int .i64 qc) (.int .i64 qd) (.slice (some ⟨wc1.heap.size,0,none⟩) 3 3) undef) pU pV (hH.next pU pV hr) (by kernel_rfl) ?_ ?_
       ·intro i az aC o ho a' hb aq;have k0':=agK hb eh.out;simp[Act.eval] at k0'
        repeat' (rcases az with _ | ⟨_,az⟩)
        all_goals first
         | (exfalso;simp at aC;done)
         | (cases ho
            try simp[Act.eval,Region.binds,fx,gu] at aq
            refine dh (by simp[Region.wanted]) ?_;simp[Oper.quietAt,Oper.quietUpon,execOp,go_sem,fx,k0',c3,c7,aq])
       ·intro f listed a' hH hr hv;have av0:=hv 0;have av16:=hv 16;simp[Act.eval,fx,gu] at av0 av16;simp only[wpOp];simp[Region.wanted];refine .inl ?_;simp[Oper.wp,go_sem,av0,av16];refine (uA HK.out ee.out 5 [q0,qc,qd] 3 rfl (by decide) (λp hp=>by simp only[List.mem_cons,Qh,or_false] at hp;omega) _ 3 HP.out).mono ?_;rintro e wy ⟨aA,an,ac,rfl,aa⟩;have lG:=jq (jX.out.trans (aa.mono jX.out.size));have ig:=jq (ee.out.keep HK.out aa ee.out.lt);have gC:=jq ((aa.block R (by omega)).trans pi.out);have BH:R+1<=wy.heap.size:=yQ pB aa.size;replace c3:=ig.out.cells 3 _ rfl;replace c7:=ig.out.cells 7 _ rfl;clear aa;dsimp only;refine dt 18 (D:=[0,1,3,4,5,6,7,8,10,11,12,13,14,2,9,15,16,17]) (val:=fx k.V k.nm wd (.int .i64 q0) (.int .i64 qc) (.int .i64 qd) (.slice (some ⟨wc1.heap.size,0,none⟩) 3 3) (.agg #[.int .i64 5,.slice aA an ac,.string ⟨#[]⟩])) pU pV (hH.next pU pV hr) (by kernel_rfl) ?_ ?_
        ·intro i az aC o ho a' hb aq;have k0':=agK hb eh.out;simp[Act.eval] at k0'
         repeat' (rcases az with _ | ⟨_,az⟩)
         all_goals first
          | (exfalso;simp at aC;done)
          | (cases ho
             try simp[Act.eval,Region.binds,fx,gu] at aq
             refine dh (by simp[Region.wanted]) ?_;simp[Oper.quietAt,Oper.quietUpon,execOp,go_sem,fx,k0',c3,c7,aq])
        ·intro f listed a' hH hr hv;have av17:=hv 17;simp[Act.eval,fx,gu] at av17;simp only[wpOp];simp[Region.wanted];refine .inl ?_;have kR:=ek [_,_,_] gC.out;have kR0:=kR 0 _ rfl;have kR1:=kR 1 _ rfl;have kR2:=kR 2 _ rfl;have fR:∀ i,wy.frozen? ⟨R,i,none⟩=false:=λi=>by simp[World.frozen?,gC.out]
         have k2':=(aJ hH.good.base (j:=2) (by decide) (by decide)).trans fN.out;simp[Act.eval] at k2';simp[Oper.wp,execOp,go_sem,av17,kR0,kR1,kR2,fR,k2'];obtain⟨ws,aU⟩:=afJ (((wy.setCell ⟨R,0,none⟩ (.int .i64 5)).setCell ⟨R,1,none⟩ (.slice aA an ac)).setCell ⟨R,2,none⟩ (.string ⟨#[]⟩));rw[<-aU];have aa:Below R wy ws:=by rw[aU];exact (((vQ R wy).blSe _).blSe _).blSe _
         have th:=aeX lG aa;have lI:=jq (ig.out.keep HK.out aa gU);replace c3:=lI.out.cells 3 _ rfl;replace c7:=lI.out.cells 7 _ rfl;clear aa kR kR0 kR1 kR2 fR k2';refine dt 19 (D:=[0,1,3,4,5,6,7,8,10,11,12,13,14,2,9,15,16,17,18]) (val:=fx k.V k.nm wd (.int .i64 q0) (.int .i64 qc) (.int .i64 qd) (.slice (some ⟨wc1.heap.size,0,none⟩) 3 3) (.agg #[.int .i64 5,.slice aA an ac,.string ⟨#[]⟩])) Rt aCJ (hH.skip hr (hv:=dU.out.symm)) (by kernel_rfl) ?_ ?_
         ·intro i az aC o ho a' hb aq;have k0':=agK hb eh.out;simp[Act.eval] at k0'
          repeat' (rcases az with _ | ⟨_,az⟩)
          all_goals first
           | (exfalso;simp at aC;done)
           | (cases ho
              try simp[Act.eval,Region.binds,fx,gu] at aq
              refine dh (by simp[Region.wanted]) ?_;simp[Oper.quietAt,Oper.quietUpon,execOp,go_sem,fx,k0',c3,c7,aq])
         ·intro f listed a' hH hr hv;simp only[wpOp];simp[Region.wanted];refine .inl ?_;simp[Oper.wp,execOp,go_sem];refine uD hH hr HM.out Rt (by kernel_rfl) λfE=>?_;rw[fE];rw[gz.out];simp[iA,Act.put,fx,gu];clear hv hH fE;rw[aU];clear aU;go_wp2_with fail;exact qg rfl HK.out ig.out (pu lG.out) hR gU gC.out 5 aA an ac _ _ (λ_=>by decide) _ rfl rfl rfl
theorem jW{ops:Array Oper}{tmps:Array Value}{j d:Nat}(hd:(ops[j]?).bind (·.dst)=some d):yielded ops tmps j=(match tmps[d]?.getD undef with | .bool b=>some b | _=>none):=by
 unfold yielded;rw[hd];show (match tmps[d]? with | some (.bool b)=>some b | _=>none)=_
 cases tmps[d]? with
 | none=>rfl
 | some v=>cases v<;>rfl
def kr(V:Nat)(q ty:Int)(g:Bool)(e2:Value)(e3:Value)(i:Nat):Value:=[.pointer (some ⟨V,0,none⟩),.int .i64 q,e2,e3,.int .i64 q,.bool g,.bool g,(cond g (.pointer (some ⟨V,0,none⟩)) undef),(cond g (.pointer (some ⟨V,0,none⟩)) undef),(cond g (.pointer (some ⟨V,3,none⟩)) undef),(cond g (.pointer (some ⟨V,4,none⟩)) undef),(cond g (.int .i64 ty) undef),(cond g (.bool (ty != 8)) undef),.bool (g&&ty != 8),undef,undef].getD i undef
def jk(i:Nat):Nat:=[12,13,14,15,16,17,18,19,20,21,22,23,24,25,1,3].getD i 0
def aAQ:List Nat:=[0,1,4,5,6,7,8,9,10,11,12,13,2,3].map jk
theorem Cx:∀ i∈[0,1,4,5,6,7,8,9,10,11,12,13,2,3],jk i<26/\jk i∈aAQ:=by decide
theorem Cy:∀ i∈[0,1,4,5,6,7,8,9,10,11,12,13,2,3],∀ j∈[0,1,4,5,6,7,8,9,10,11,12,13,2,3],j≠i->jk i≠jk j:=by decide
def aAZ:List Nat:=[0,1,4,5,6,7,8,9,10,11,12,13,2,3,14].map jk
theorem Ri:∀ i∈[0,1,4,5,6,7,8,9,10,11,12,13,2,3,14],jk i<26/\jk i∈aAZ:=by decide
theorem azY:∀ i∈[0,1,4,5,6,7,8,9,10,11,12,13,2,3,14],∀ j∈[0,1,4,5,6,7,8,9,10,11,12,13,2,3,14],j≠i->jk i≠jk j:=by decide
def iw(V:Nat)(q ty:Int)(nm:ByteArray)(g:Bool)(e8:Value)(e9:Value)(e10:Value)(i:Nat):Value:=[.pointer (some ⟨V,0,none⟩),.int .i64 q,.pointer (some ⟨V,0,none⟩),.pointer (some ⟨V,0,none⟩),.pointer (some ⟨V,0,none⟩),.pointer (some ⟨V,3,none⟩),.pointer (some ⟨V,3,none⟩),.string nm,e8,e9,e10,.int .i64 q,.bool g,.bool g,(cond g (.pointer (some ⟨V,0,none⟩)) undef),(cond g (.pointer (some ⟨V,0,none⟩)) undef),(cond g (.pointer (some ⟨V,3,none⟩)) undef),(cond g (.pointer (some ⟨V,4,none⟩)) undef),(cond g (.int .i64 ty) undef),(cond g (.bool (ty != 8)) undef),.bool (g&&ty != 8),undef,undef].getD i undef
def iv(i:Nat):Nat:=[11,12,13,14,15,16,17,18,19,20,21,22,23,24,25,26,27,28,29,30,31,1,3].getD i 0
def aCQ:List Nat:=[0,1,2,3,4,5,6,7,11,12,13,14,15,16,17,18,19,20,8,9,10].map iv
theorem xb:∀ i∈[0,1,2,3,4,5,6,7,11,12,13,14,15,16,17,18,19,20,8,9,10],iv i<32/\iv i∈aCQ:=by decide
theorem xd:∀ i∈[0,1,2,3,4,5,6,7,11,12,13,14,15,16,17,18,19,20,8,9,10],∀ j∈[0,1,2,3,4,5,6,7,11,12,13,14,15,16,17,18,19,20,8,9,10],j≠i->iv i≠iv j:=by decide
def aCZ:List Nat:=[0,1,2,3,4,5,6,7,11,12,13,14,15,16,17,18,19,20,8,9,10,21].map iv
theorem Rs:∀ i∈[0,1,2,3,4,5,6,7,11,12,13,14,15,16,17,18,19,20,8,9,10,21],iv i<32/\iv i∈aCZ:=by decide
theorem aBY:∀ i∈[0,1,2,3,4,5,6,7,11,12,13,14,15,16,17,18,19,20,8,9,10,21],∀ j∈[0,1,2,3,4,5,6,7,11,12,13,14,15,16,17,18,19,20,8,9,10,21],j≠i->iv i≠iv j:=by decide
theorem Yf(k:VwS)(hk:VwOk k)(wd:ByteArray)(w:World)(h:VwIn k wd w) :
 Calls prog 192 #[.pointer (some ⟨k.V,0,none⟩)] w (mX k w λkd d=>kd≠1):=by
 obtain⟨R,hR⟩:=afZ w.heap.size;obtain⟨wa,HK,cK,fM,iG,li,gU,bg⟩:=xE hk h hR;clear hk;go_enter func192,ntmps192;have c3:=cK.out.cells 3 _ rfl;go_wp2_with fail
 try rw[bg]
 try clear bg
 refine (uB HK.out cK.out k.nm 3).mono ?_;rintro e wp ⟨q,wV,l6,rfl,-,aa⟩;have ie:=jq (fM.out.trans (aa.mono fM.out.size));have ea:=jq (cK.out.keep HK.out aa cK.out.lt);have kW:=jq ((aa.block R (by omega)).trans iG.out);have nn:R+1<=wp.heap.size:=yQ li aa.size;have c4:=ea.out.cells 4 _ rfl;clear aa c3;go_upto_region 2 with fail
 obtain⟨g,hd⟩:=afZ (decide (0<=q));obtain⟨wd0,aU⟩:=afJ wp.drew;have aa:Below wp.heap.size wp wd0:=by rw[aU];exact (vQ _ _).drew
 have mj:=jq (ie.out.trans (aa.mono ie.out.size));have gb:=jq (ea.out.keep HK.out aa ea.out.lt);have rD:=jq ((aa.block R (by omega)).trans kW.out);have rP:R+1<=wd0.heap.size:=yQ nn aa.size;replace c4:=gb.out.cells 4 _ rfl;clear aa;refine zT λa0 aV=>?_;have gz:=jq aV;have eh:=jq (show a0.eval (.tmp 0) = .pointer (some ⟨k.V,0,none⟩) by rw[aV];rfl);have dU:=jq (show a0.eval (.tmp 1)=undef by rw[aV];rfl);have fN:=jq (show a0.eval (.tmp 2) = .pointer (some ⟨R,0,none⟩) by rw[aV];rfl);have mU:=jq (show a0.eval (.tmp 4) = .int .i64 q by rw[aV];rfl);have HM:=jq (show a0.tmps.size=26 by rw[aV];rfl);clear aV;refine wp_region_any (by kernel_rfl) ?_;change wpAny prog .any _ _ _ _ _ wp.drew;rw[<-aU];clear aU;refine dt 2 (D:=[0,1,4,5,6,7,8,9,10,11,12,13]) (val:=kr k.V q k.ty g undef undef) Cx Cy (rY HM.out) (by kernel_rfl) ?_ ?_
 ·intro i az aC o ho a' hb aq;have k0':=agK hb eh.out;have k4':=agK hb mU.out;simp[Act.eval] at k0' k4'
  repeat' (rcases az with _ | ⟨_,az⟩)
  all_goals first
   | (exfalso;simp at aC;done)
   | (cases ho
      cases g <;>
       (try simp[Act.eval,Region.binds,kr,jk] at aq
        first
        | (refine dh ?_ ?_
           ·simp[Region.wanted,jW (j:=6) (d:=18),aq];done
           ·simp[Oper.quietAt,Oper.quietUpon,execOp,go_sem,kr,k0',k4',c4,hd,aq])
        | (refine .inr ⟨?_,rfl⟩
           simp[Region.wanted,jW (j:=6) (d:=18),aq])))
 ·intro f listed a' hH hr hv;have av1:=hv 1;simp[Act.eval,kr,jk] at av1;simp only[wpOp];simp[Region.wanted];refine .inl ?_;simp[Oper.wp,execOp,go_sem,av1];obtain⟨wx,aU⟩:=afJ (wd0.alloc (.cells #[.int .i64 q] 3));rw[<-aU];have aa:Below wd0.heap.size wd0 wx:=by rw[aU];exact blAl
  have HP:=jq (xz (w:=wx) (B:=wx.heap.size) (b:=wd0.heap.size) [q] (eb [.int .i64 q] 3 rfl aU.symm) (by rw[aU];simp) rfl (by simp));have jX:=jq (mj.out.trans (aa.mono mj.out.size));have ee:=jq (gb.out.keep HK.out aa gb.out.lt);have pi:=jq ((aa.block R (by omega)).trans rD.out);have pB:R+1<=wx.heap.size:=yQ rP aa.size;replace c4:=ee.out.cells 4 _ rfl;clear aU aa;refine dt 3 (D:=[0,1,4,5,6,7,8,9,10,11,12,13,2]) (val:=kr k.V q k.ty g (.slice (some ⟨wd0.heap.size,0,none⟩) 1 1) undef) Cx Cy (hH.next Cx Cy hr) (by kernel_rfl) ?_ ?_
  ·intro i az aC o ho a' hb aq;have k0':=agK hb eh.out;have k4':=agK hb mU.out;simp[Act.eval] at k0' k4'
   repeat' (rcases az with _ | ⟨_,az⟩)
   all_goals first
    | (exfalso;simp at aC;done)
    | (cases ho
       cases g <;>
        (try simp[Act.eval,Region.binds,kr,jk] at aq
         first
         | (refine dh ?_ ?_
            ·simp[Region.wanted,jW (j:=6) (d:=18),aq];done
            ·simp[Oper.quietAt,Oper.quietUpon,execOp,go_sem,kr,k0',k4',c4,hd,aq])
         | (refine .inr ⟨?_,rfl⟩
            simp[Region.wanted,jW (j:=6) (d:=18),aq])))
  ·intro f listed a' hH hr hv;have av0:=hv 0;have av2:=hv 2;simp[Act.eval,kr,jk] at av0 av2;simp only[wpOp];simp[Region.wanted];refine .inl ?_;simp[Oper.wp,go_sem,av0,av2];refine (uA HK.out ee.out 3 [q] 1 rfl (by decide) (λp hp=>by simp only[List.mem_cons,Qh,or_false] at hp;omega) _ 1 HP.out).mono ?_;rintro e wy ⟨aA,an,ac,rfl,aa⟩;have lG:=jq (jX.out.trans (aa.mono jX.out.size));have ig:=jq (ee.out.keep HK.out aa ee.out.lt);have gC:=jq ((aa.block R (by omega)).trans pi.out);have BH:R+1<=wy.heap.size:=yQ pB aa.size;replace c4:=ig.out.cells 4 _ rfl;clear aa;dsimp only;refine dt 14 (D:=[0,1,4,5,6,7,8,9,10,11,12,13,2,3]) (val:=kr k.V q k.ty g (.slice (some ⟨wd0.heap.size,0,none⟩) 1 1) (.agg #[.int .i64 3,.slice aA an ac,.string ⟨#[]⟩])) Cx Cy (hH.next Cx Cy hr) (by kernel_rfl) ?_ ?_
   ·intro i az aC o ho a' hb aq;have k0':=agK hb eh.out;have k4':=agK hb mU.out;simp[Act.eval] at k0' k4'
    repeat' (rcases az with _ | ⟨_,az⟩)
    all_goals first
     | (exfalso;simp at aC;done)
     | (cases ho
        cases g <;>
         (try simp[Act.eval,Region.binds,kr,jk] at aq
          first
          | (refine dh ?_ ?_
             ·simp[Region.wanted,jW (j:=6) (d:=18),aq];done
             ·simp[Oper.quietAt,Oper.quietUpon,execOp,go_sem,kr,k0',k4',c4,hd,aq])
          | (refine .inr ⟨?_,rfl⟩
             simp[Region.wanted,jW (j:=6) (d:=18),aq])))
   ·intro f listed a' hH hr hv;have av3:=hv 3;simp[Act.eval,kr,jk] at av3;simp only[wpOp];simp[Region.wanted];refine .inl ?_;have kR:=ek [_,_,_] gC.out;have kR0:=kR 0 _ rfl;have kR1:=kR 1 _ rfl;have kR2:=kR 2 _ rfl;have fR:∀ i,wy.frozen? ⟨R,i,none⟩=false:=λi=>by simp[World.frozen?,gC.out]
    have k2':=(aJ hH.good.base (j:=2) (by decide) (by decide)).trans fN.out;simp[Act.eval] at k2';simp[Oper.wp,execOp,go_sem,av3,kR0,kR1,kR2,fR,k2'];obtain⟨ws,aU⟩:=afJ (((wy.setCell ⟨R,0,none⟩ (.int .i64 3)).setCell ⟨R,1,none⟩ (.slice aA an ac)).setCell ⟨R,2,none⟩ (.string ⟨#[]⟩));rw[<-aU];have aa:Below R wy ws:=by rw[aU];exact (((vQ R wy).blSe _).blSe _).blSe _
    have th:=aeX lG aa;have lI:=jq (ig.out.keep HK.out aa gU);replace c4:=lI.out.cells 4 _ rfl;clear aa kR kR0 kR1 kR2 fR k2';refine dt 15 (D:=[0,1,4,5,6,7,8,9,10,11,12,13,2,3,14]) (val:=kr k.V q k.ty g (.slice (some ⟨wd0.heap.size,0,none⟩) 1 1) (.agg #[.int .i64 3,.slice aA an ac,.string ⟨#[]⟩])) Ri azY (hH.skip hr (hv:=dU.out.symm)) (by kernel_rfl) ?_ ?_
    ·intro i az aC o ho a' hb aq;have k0':=agK hb eh.out;have k4':=agK hb mU.out;simp[Act.eval] at k0' k4'
     repeat' (rcases az with _ | ⟨_,az⟩)
     all_goals first
      | (exfalso;simp at aC;done)
      | (cases ho
         cases g <;>
          (try simp[Act.eval,Region.binds,kr,jk] at aq
           first
           | (refine dh ?_ ?_
              ·simp[Region.wanted,jW (j:=6) (d:=18),aq];done
              ·simp[Oper.quietAt,Oper.quietUpon,execOp,go_sem,kr,k0',k4',c4,hd,aq])
           | (refine .inr ⟨?_,rfl⟩
              simp[Region.wanted,jW (j:=6) (d:=18),aq])))
    ·intro f listed a' hH hr hv;have av13:=hv 13;simp[Act.eval,kr,jk] at av13;simp only[wpOp];simp[Region.wanted];refine .inl ?_;simp[Oper.wp,execOp,go_sem,av13];refine uD hH hr HM.out Ri (by kernel_rfl) λfE=>?_;rw[fE];rw[gz.out];simp[iA,Act.put,kr,jk];clear hv hH fE;rw[aU];clear aU;go_wp2_with fail;exact qg rfl HK.out ig.out (pu lG.out) hR gU gC.out 3 aA an ac _ _ (by decide) _ rfl rfl rfl
theorem bqQ(k:VwS)(hk:VwOk k)(wd:ByteArray)(w:World)(h:VwIn k wd w) :
 Calls prog 195 #[.pointer (some ⟨k.V,0,none⟩)] w (mX k w λkd d=>kd≠1):=by
 obtain⟨R,hR⟩:=afZ w.heap.size;obtain⟨wa,HK,cK,fM,iG,li,gU,bg⟩:=xE hk h hR;clear hk;go_enter func195,ntmps195;have c7:=cK.out.cells 7 _ rfl;go_wp2_with fail
 try rw[bg]
 try clear bg
 refine (uB HK.out cK.out wd 3).mono ?_;rintro e wp ⟨q,wV,l6,rfl,-,aa⟩;have ie:=jq (fM.out.trans (aa.mono fM.out.size));have ea:=jq (cK.out.keep HK.out aa cK.out.lt);have kW:=jq ((aa.block R (by omega)).trans iG.out);have nn:R+1<=wp.heap.size:=yQ li aa.size;have c3:=ea.out.cells 3 _ rfl;have c4:=ea.out.cells 4 _ rfl;clear aa c7;go_upto_region 2 with fail
 obtain⟨g,hd⟩:=afZ (decide (0<=q));obtain⟨wd0,aU⟩:=afJ wp.drew;have aa:Below wp.heap.size wp wd0:=by rw[aU];exact (vQ _ _).drew
 have mj:=jq (ie.out.trans (aa.mono ie.out.size));have gb:=jq (ea.out.keep HK.out aa ea.out.lt);have rD:=jq ((aa.block R (by omega)).trans kW.out);have rP:R+1<=wd0.heap.size:=yQ nn aa.size;replace c3:=gb.out.cells 3 _ rfl;replace c4:=gb.out.cells 4 _ rfl;clear aa;refine zT λa0 aV=>?_;have gz:=jq aV;have eh:=jq (show a0.eval (.tmp 0) = .pointer (some ⟨k.V,0,none⟩) by rw[aV];rfl);have dU:=jq (show a0.eval (.tmp 1)=undef by rw[aV];rfl);have fN:=jq (show a0.eval (.tmp 2) = .pointer (some ⟨R,0,none⟩) by rw[aV];rfl);have mU:=jq (show a0.eval (.tmp 4) = .int .i64 q by rw[aV];rfl);have HM:=jq (show a0.tmps.size=32 by rw[aV];rfl);clear aV;refine wp_region_any (by kernel_rfl) ?_;change wpAny prog .any _ _ _ _ _ wp.drew;rw[<-aU];clear aU;refine dt 8 (D:=[0,1,2,3,4,5,6,7,11,12,13,14,15,16,17,18,19,20]) (val:=iw k.V q k.ty k.nm g undef undef undef) xb xd (rY HM.out) (by kernel_rfl) ?_ ?_
 ·intro i az aC o ho a' hb aq;have k0':=agK hb eh.out;have k4':=agK hb mU.out;simp[Act.eval] at k0' k4'
  repeat' (rcases az with _ | ⟨_,az⟩)
  all_goals first
   | (exfalso;simp at aC;done)
   | (cases ho
      cases g <;>
       (try simp[Act.eval,Region.binds,iw,iv] at aq
        first
        | (refine dh ?_ ?_
           ·simp[Region.wanted,jW (j:=13) (d:=24),aq];done
           ·simp[Oper.quietAt,Oper.quietUpon,execOp,go_sem,iw,k0',k4',c3,c4,hd,aq])
        | (refine .inr ⟨?_,rfl⟩
           simp[Region.wanted,jW (j:=13) (d:=24),aq])))
 ·intro f listed a' hH hr hv;have av2:=hv 2;have av7:=hv 7;simp[Act.eval,iw,iv] at av2 av7;simp only[wpOp];simp[Region.wanted];refine .inl ?_;simp[Oper.wp,go_sem,av2,av7];refine (xG HK.out gb.out k.nm HK.out.nm2 HK.out.nm1).mono ?_;rintro e wc ⟨qc,Fg,Fh,rfl,aa⟩;have mi:=jq (mj.out.trans (aa.mono mj.out.size));have gO:=jq (gb.out.keep HK.out aa gb.out.lt);have rC:=jq ((aa.block R (by omega)).trans rD.out);have rO:R+1<=wc.heap.size:=yQ rP aa.size;replace c3:=gO.out.cells 3 _ rfl;replace c4:=gO.out.cells 4 _ rfl;clear aa;dsimp only;refine dt 9 (D:=[0,1,2,3,4,5,6,7,11,12,13,14,15,16,17,18,19,20,8]) (val:=iw k.V q k.ty k.nm g (.int .i64 qc) undef undef) xb xd (hH.next xb xd hr) (by kernel_rfl) ?_ ?_
  ·intro i az aC o ho a' hb aq;have k0':=agK hb eh.out;have k4':=agK hb mU.out;simp[Act.eval] at k0' k4'
   repeat' (rcases az with _ | ⟨_,az⟩)
   all_goals first
    | (exfalso;simp at aC;done)
    | (cases ho
       cases g <;>
        (try simp[Act.eval,Region.binds,iw,iv] at aq
         first
         | (refine dh ?_ ?_
            ·simp[Region.wanted,jW (j:=13) (d:=24),aq];done
            ·simp[Oper.quietAt,Oper.quietUpon,execOp,go_sem,iw,k0',k4',c3,c4,hd,aq])
         | (refine .inr ⟨?_,rfl⟩
            simp[Region.wanted,jW (j:=13) (d:=24),aq])))
  ·intro f listed a' hH hr hv;have av1:=hv 1;have av8:=hv 8;simp[Act.eval,iw,iv] at av1 av8;simp only[wpOp];simp[Region.wanted];refine .inl ?_;simp[Oper.wp,execOp,go_sem,av1,av8];obtain⟨wx,aU⟩:=afJ (wc.alloc (.cells #[.int .i64 q,.int .i64 qc] 3));rw[<-aU];have aa:Below wc.heap.size wc wx:=by rw[aU];exact blAl
   have HP:=jq (xz (w:=wx) (B:=wx.heap.size) (b:=wc.heap.size) [q,qc] (eb [.int .i64 q,.int .i64 qc] 3 rfl aU.symm) (by rw[aU];simp) rfl (by simp));have jX:=jq (mi.out.trans (aa.mono mi.out.size));have ee:=jq (gO.out.keep HK.out aa gO.out.lt);have pi:=jq ((aa.block R (by omega)).trans rC.out);have pB:R+1<=wx.heap.size:=yQ rO aa.size;replace c3:=ee.out.cells 3 _ rfl;replace c4:=ee.out.cells 4 _ rfl;clear aU aa;refine dt 10 (D:=[0,1,2,3,4,5,6,7,11,12,13,14,15,16,17,18,19,20,8,9]) (val:=iw k.V q k.ty k.nm g (.int .i64 qc) (.slice (some ⟨wc.heap.size,0,none⟩) 2 2) undef) xb xd (hH.next xb xd hr) (by kernel_rfl) ?_ ?_
   ·intro i az aC o ho a' hb aq;have k0':=agK hb eh.out;have k4':=agK hb mU.out;simp[Act.eval] at k0' k4'
    repeat' (rcases az with _ | ⟨_,az⟩)
    all_goals first
     | (exfalso;simp at aC;done)
     | (cases ho
        cases g <;>
         (try simp[Act.eval,Region.binds,iw,iv] at aq
          first
          | (refine dh ?_ ?_
             ·simp[Region.wanted,jW (j:=13) (d:=24),aq];done
             ·simp[Oper.quietAt,Oper.quietUpon,execOp,go_sem,iw,k0',k4',c3,c4,hd,aq])
          | (refine .inr ⟨?_,rfl⟩
             simp[Region.wanted,jW (j:=13) (d:=24),aq])))
   ·intro f listed a' hH hr hv;have av0:=hv 0;have av9:=hv 9;simp[Act.eval,iw,iv] at av0 av9;simp only[wpOp];simp[Region.wanted];refine .inl ?_;simp[Oper.wp,go_sem,av0,av9];refine (uA HK.out ee.out 3 [q,qc] 2 rfl (by decide) (λp hp=>by simp only[List.mem_cons,Qh,or_false] at hp;omega) _ 2 HP.out).mono ?_;rintro e wy ⟨aA,an,ac,rfl,aa⟩;have lG:=jq (jX.out.trans (aa.mono jX.out.size));have ig:=jq (ee.out.keep HK.out aa ee.out.lt);have gC:=jq ((aa.block R (by omega)).trans pi.out);have BH:R+1<=wy.heap.size:=yQ pB aa.size;replace c3:=ig.out.cells 3 _ rfl;replace c4:=ig.out.cells 4 _ rfl;clear aa;dsimp only;refine dt 21 (D:=[0,1,2,3,4,5,6,7,11,12,13,14,15,16,17,18,19,20,8,9,10]) (val:=iw k.V q k.ty k.nm g (.int .i64 qc) (.slice (some ⟨wc.heap.size,0,none⟩) 2 2) (.agg #[.int .i64 3,.slice aA an ac,.string ⟨#[]⟩])) xb xd (hH.next xb xd hr) (by kernel_rfl) ?_ ?_
    ·intro i az aC o ho a' hb aq;have k0':=agK hb eh.out;have k4':=agK hb mU.out;simp[Act.eval] at k0' k4'
     repeat' (rcases az with _ | ⟨_,az⟩)
     all_goals first
      | (exfalso;simp at aC;done)
      | (cases ho
         cases g <;>
          (try simp[Act.eval,Region.binds,iw,iv] at aq
           first
           | (refine dh ?_ ?_
              ·simp[Region.wanted,jW (j:=13) (d:=24),aq];done
              ·simp[Oper.quietAt,Oper.quietUpon,execOp,go_sem,iw,k0',k4',c3,c4,hd,aq])
           | (refine .inr ⟨?_,rfl⟩
              simp[Region.wanted,jW (j:=13) (d:=24),aq])))
    ·intro f listed a' hH hr hv;have av10:=hv 10;simp[Act.eval,iw,iv] at av10;simp only[wpOp];simp[Region.wanted];refine .inl ?_;have kR:=ek [_,_,_] gC.out;have kR0:=kR 0 _ rfl;have kR1:=kR 1 _ rfl;have kR2:=kR 2 _ rfl;have fR:∀ i,wy.frozen? ⟨R,i,none⟩=false:=λi=>by simp[World.frozen?,gC.out]
     have k2':=(aJ hH.good.base (j:=2) (by decide) (by decide)).trans fN.out;simp[Act.eval] at k2';simp[Oper.wp,execOp,go_sem,av10,kR0,kR1,kR2,fR,k2'];obtain⟨ws,aU⟩:=afJ (((wy.setCell ⟨R,0,none⟩ (.int .i64 3)).setCell ⟨R,1,none⟩ (.slice aA an ac)).setCell ⟨R,2,none⟩ (.string ⟨#[]⟩));rw[<-aU];have aa:Below R wy ws:=by rw[aU];exact (((vQ R wy).blSe _).blSe _).blSe _
     have th:=aeX lG aa;have lI:=jq (ig.out.keep HK.out aa gU);replace c3:=lI.out.cells 3 _ rfl;replace c4:=lI.out.cells 4 _ rfl;clear aa kR kR0 kR1 kR2 fR k2';refine dt 22 (D:=[0,1,2,3,4,5,6,7,11,12,13,14,15,16,17,18,19,20,8,9,10,21]) (val:=iw k.V q k.ty k.nm g (.int .i64 qc) (.slice (some ⟨wc.heap.size,0,none⟩) 2 2) (.agg #[.int .i64 3,.slice aA an ac,.string ⟨#[]⟩])) Rs aBY (hH.skip hr (hv:=dU.out.symm)) (by kernel_rfl) ?_ ?_
     ·intro i az aC o ho a' hb aq;have k0':=agK hb eh.out;have k4':=agK hb mU.out;simp[Act.eval] at k0' k4'
      repeat' (rcases az with _ | ⟨_,az⟩)
      all_goals first
       | (exfalso;simp at aC;done)
       | (cases ho
          cases g <;>
           (try simp[Act.eval,Region.binds,iw,iv] at aq
            first
            | (refine dh ?_ ?_
               ·simp[Region.wanted,jW (j:=13) (d:=24),aq];done
               ·simp[Oper.quietAt,Oper.quietUpon,execOp,go_sem,iw,k0',k4',c3,c4,hd,aq])
            | (refine .inr ⟨?_,rfl⟩
               simp[Region.wanted,jW (j:=13) (d:=24),aq])))
     ·intro f listed a' hH hr hv;have av20:=hv 20;simp[Act.eval,iw,iv] at av20;simp only[wpOp];simp[Region.wanted];refine .inl ?_;simp[Oper.wp,execOp,go_sem,av20];refine uD hH hr HM.out Rs (by kernel_rfl) λfE=>?_;rw[fE];rw[gz.out];simp[iA,Act.put,iw,iv];clear hv hH fE;rw[aU];clear aU;go_wp2_with fail;exact qg rfl HK.out ig.out (pu lG.out) hR gU gC.out 3 aA an ac _ _ (by decide) _ rfl rfl rfl
theorem aPZ(s z:ByteArray)(hs:s.size<=140737488355328)(hz:z.size<=140737488355328)(v2:Np.al z.data.toList=true)(w:World) :
 Calls prog 264 #[.string s,.string z] w λe w'=>∃ b,e = .returned (.bool b)/\Below w.heap.size w w':=by
 cases v1:Np.al s.data.toList with
 | true=>exact (St s z hs hz v1 v2 w).mono λe w' h=>⟨_,h.1,h.2⟩
 | false=>
  have V1:=jq v1;clear v1;go_enter func264,ntmps264;go_wp2_with fail;refine (blY s z hs w V1.out).mono ?_;rintro e w2 ⟨rfl,hb⟩;have HB:=jq hb;clear hb;go_wp2_with fail;exact bodyPost_ret (v:=.bool false) (by simp[results,results264,go_sem]) rfl ⟨_,rfl,HB.out⟩
theorem Tryz.infoIntH:(prog.info? 3).map (λi=>(i.zero,i.size,i.bytes))=some (some (.int .i64 0),1,8):=by kernel_rfl
theorem Yp{w:World}{base k:Nat}{v:Value}{vals:List Value}(h:w.ownsRow base 3 1 v k vals)(ty:TypeId)(q:Nat)(x:Int)(hc:w.cell? ⟨q,0,none⟩=some (.int .i64 x))(hk:k<=10000)(hb:base<=w.heap.size) :
 ∃ v' w',(Builtin.append_ #[27,27] ty #[v,.slice (some ⟨q,0,none⟩) 1 1]).run prog w = .ok v' w'/\w'.ownsRow base 3 1 v' (k+1) (vals ++ [.int .i64 x])/\Below base w w':=by
 obtain⟨i0,hi,dP,bF,aO⟩:=info_parts Tryz.infoIntH;obtain⟨v',w',hr,r1,r2,_,_⟩:=run_append_own_at (P:=prog) w base 27 ty 3 i0 (.int .i64 0) 1 8 underlying27 hi dP bF aO rfl (by decide) v k vals h ⟨q,0,none⟩ 1 1 [.int .i64 x] rfl (λj u hj=>by
  cases j with
  | zero=>
   simp only[List.getElem?_cons_zero,Option.some.injEq] at hj;subst hj;exact hc
  | succ j=>simp at hj) (λu hu=>by simp at hu;subst hu;rfl) (by simp[maxLen];omega) (by omega) hb
 exact⟨v',w',hr,r1,(vQ _ _).grown r2 hb (λg e=>(h.lt g e).1)⟩
theorem aIQ{w:World}{base m:Nat}{v:Value}{ps:List Int}(h:w.ownsRow base 3 1 v m (ps.map (Value.int .i64)))(hm:ps.length=m)(h6:m<=10000):SlR ei 1 w w.heap.size v ps:=by
 subst hm;have BU:=λg hg=>World.ownsRow.cells (g:=g) h hg;have ab:=h.lt;rcases h.2 with ⟨rfl,h0⟩ | ⟨g,cap,cur,rfl,_,_,lu,_⟩
 ·obtain rfl:ps = []:=rQ h0;exact⟨none,0,rfl,by simp,by simp,λi x h=>by simp at h⟩
 ·refine TQ ps (λi x hx=>?_) (ab g rfl).2 lu h6;have h3:=BU g rfl i (.int .i64 x) (by rw[List.getElem?_map,hx];rfl);have mw:(⟨g,0,none⟩:Addr).add i=⟨g,i,none⟩:=by cases i<;>simp[Addr.add]
  rwa [mw] at h3
theorem a6X(k:VwS)(hk:VwOk k)(cw:k.ty=4)(wd:ByteArray)(w:World)(h:VwIn k wd w) :
 Calls prog 190 #[.pointer (some ⟨k.V,0,none⟩)] w (mX k w λkd d=>(d=true->kd≠1)/\(d=true->k.bh=true)):=by
 obtain⟨R,hR⟩:=afZ w.heap.size;obtain⟨wa,HK,cK,fM,iG,li,gU,bg⟩:=xE hk h hR;clear hk;have c3:=cK.out.cells 3 _ rfl;have c4:=cK.out.cells 4 _ rfl;have c5:=cK.out.cells 5 _ rfl;have c6:=cK.out.cells 6 _ rfl;rw[cw] at c4;go_enter func190,ntmps190
 cases mx:k.bh with
 | false=>
  rw[mx] at c6;go_upto_region 2 with fail
  try rw[bg]
  try clear bg
  go_quiet (fail);generalize aj:World.drewN _ nq=w2;have aa:Below wa.heap.size wa w2:=aj ▸ below_drewN (vQ _ _) _;have ah:=jq (fM.out.trans (aa.mono fM.out.size));have uS:=jq (cK.out.keep HK.out aa cK.out.lt);have gP:=jq ((aa.block R (by omega)).trans iG.out);have kR:=ek [_,_,_] gP.out;have kR0:=kR 0 _ rfl;have kR1:=kR 1 _ rfl;have kR2:=kR 2 _ rfl;have fR:∀ i,w2.frozen? ⟨R,i,none⟩=false:=λi=>by simp[World.frozen?,gP.out]
  clear aj aa c3 c4 c5 c6;go_wp2_with fail;exact qg rfl HK.out uS.out (pu ah.out) hR gU gP.out 0 none 0 0 ⟨#[]⟩ false ⟨(λh=>by cases h),(λh=>by cases h)⟩ _ rfl rfl rfl
 | true=>
  rw[mx] at c6;have MI:=jq (HK.out.cut1 mx);clear mx;obtain⟨eq,heq⟩:=afZ (k.nm.toList == k.cut.toList);have nr:(k.nm.toList == k.cut.toList)=true\/(k.nm.toList == k.cut.toList)=false:=by cases (k.nm.toList == k.cut.toList)<;>simp
  clear heq;rcases nr with heq | heq
  all_goals
   go_upto_region 2 with fail
   try rw[bg]
   try clear bg
   go_quiet (fail);generalize aj:World.drewN _ nq=w2;have aa:Below wa.heap.size wa w2:=aj ▸ below_drewN (vQ _ _) _;have Mr:=jq (fM.out.trans (aa.mono fM.out.size));have DD:=jq (cK.out.keep HK.out aa cK.out.lt);have W4:=jq ((aa.block R (by omega)).trans iG.out);have ahJ:R+1<=w2.heap.size:=yQ li aa.size;replace c5:=DD.out.cells 5 _ rfl;clear aj aa c3 c4 c6 heq;go_wp2_with fail;refine (uB HK.out DD.out k.cut 2).mono ?_;rintro e w3 ⟨q1,bMQ,bMZ,rfl,hq,aa⟩;have bLY:0<=q1:=hq.2 MI.out.2;have Ms:=jq (Mr.out.trans (aa.mono Mr.out.size));have DE:=jq (DD.out.keep HK.out aa DD.out.lt);have W5:=jq ((aa.block R (by omega)).trans W4.out);have ahK:R+1<=w3.heap.size:=yQ ahJ aa.size;replace c5:=DE.out.cells 5 _ rfl;clear aa hq;go_wp2_with fail;refine (uB HK.out DE.out k.cut 6).mono ?_;rintro e w4 ⟨q2,Q2,Q3,rfl,-,aa⟩;have GC:=jq (Ms.out.trans (aa.mono Ms.out.size));have Au:=jq (DE.out.keep HK.out aa DE.out.lt);have NL:=jq ((aa.block R (by omega)).trans W5.out);have PH:R+1<=w4.heap.size:=yQ ahK aa.size;replace c5:=Au.out.cells 5 _ rfl;clear aa;by_cases axZ:q2<0
   case' pos=>
    go_wp2_with fail;refine (uB HK.out Au.out k.cut 8).mono ?_;rintro e w5 ⟨qp,ayZ,ayJ,rfl,-,aa⟩;have GD:=jq (GC.out.trans (aa.mono GC.out.size));have uV:=jq (Au.out.keep HK.out aa Au.out.lt);have NM:=jq ((aa.block R (by omega)).trans NL.out);have PI:R+1<=w5.heap.size:=yQ PH aa.size;replace c5:=uV.out.cells 5 _ rfl;clear aa
   case' neg=>
    obtain⟨w5,aK⟩:=afJ w4;obtain⟨qp,Q8⟩:=afJ q2;have ayZ : -1<=qp:=by omega
    have ayJ:qp<k.n:=by omega
    have GD:Hid (Below w.heap.size w w5):=by rw[aK];exact GC
    have uV:Hid (VwIn k wd w5):=by rw[aK];exact Au
    have NM:Hid (w5.heap[R]?=some (.cells #[.int .i64 0,.slice none 0 0,.string ⟨#[]⟩] 104 (0,0))):=by rw[aK];exact NL
    have PI:R+1<=w5.heap.size:=by rw[aK];exact PH
    rw[<-aK] at c5 |-;rw[<-Q8] at axZ |-;clear aK Q8
   all_goals
    obtain⟨i,rfl⟩:∃ i:Nat,q1=(i:Int):=⟨q1.toNat,by omega⟩;have hin:i<k.n:=by omega
    obtain⟨x,iy⟩:∃ x,k.xs[i]?=some x:=⟨_,aQ (by rw[HK.out.len];exact hin)⟩;obtain⟨E,hE⟩:=afZ w5.heap.size;obtain⟨w6,bC⟩:=afZ (w5.alloc (.cells #[.int .i64 i,.int .i64 qp] 3));have aa:Below w5.heap.size w5 w6:=by rw[<-bC];exact blAl
    have AD:Hid (w6.ownsRow E 3 1 (.slice (some ⟨E,0,none⟩) 2 2) 2 ([(i:Int),qp].map (Value.int .i64))):=jq (by rw[<-bC,<-hE];exact World.ownsRow_lit w5 #[.int .i64 i,.int .i64 qp] 2 (bQ _) (by simp[maxLen]) rfl);have UY:=jq (GD.out.trans (aa.mono GD.out.size));have Hi:=jq (uV.out.keep HK.out aa uV.out.lt);have W6:=jq ((aa.block R (by omega)).trans NM.out);have bAY:R+1<=w6.heap.size:=yQ PI aa.size;have eX:E+1<=w6.heap.size:=by rw[<-bC];simp[hE]
    obtain⟨b,o,c2,s,dv,sv,hA,b7,_,_,_,aY,aN,_,_,_,e3,_⟩:=dB (Hi.out.all HK.out) iy;obtain⟨dA,dn,dc,rfl,jK,hdc,_⟩:=xB aY;have fp:dn<=1000:=by rw[<-jK];exact (HK.out.fewd x (gQ iy)).1
    have hVb:b<E:=by
     have h1:=(uV.out.all HK.out);obtain⟨b',o',_,_,_,_,hA',tP,_⟩:=dB h1 iy;rw[hA] at hA';simp only[Value.slice.injEq,Option.some.injEq,Addr.mk.injEq] at hA';omega
    have jy:Hid (SlR ci 3 w6 E (.slice dA dn dc) x.set.data):=jq (by
     obtain⟨_,_,_,_,dv',_,hA',_,_,_,_,rX,_,_,_,_,e3',_⟩:=dB (uV.out.all HK.out) iy;rw[hA] at hA';simp only[Value.slice.injEq,Option.some.injEq,Addr.mk.injEq] at hA';obtain⟨⟨rfl,rfl,-⟩,-,rfl⟩:=hA';have h2:=aeK aa e3';rw[e3] at h2
     cases h2
     rw[<-hE];exact rX.keep cJ aa)
    have Ak:=jq jK;have c1:=Hi.out.cells 1 _ rfl;rw[hA] at c1;have ki:(0:Int)<=(i:Int):=by omega
    have l3:(i:Int)<(k.n:Int):=by omega
    have wI:k.xs.length=k.n:=HK.out.len;rw[wI] at c1;have hVE:k.V<E:=by have:=uV.out.lt;omega
    have hRE:R+1<=E:=by omega
    clear aa aY aN jK iy wI c5;go_wp2_with fail
    try rw[bC]
    clear bC c1 e3;go_loopw [7,79] (λv ix wr=>∃ (j m:Nat) (A:Option Addr) (c:Nat) (ps:List Int),j<=dn/\ix = .int .i64 j/\v = .slice A m c/\ps.length=m/\m<=2+j/\Hid (∀ p∈ps,p<k.n)/\Hid (wr.ownsRow E 3 1 v m (ps.map (Value.int .i64)))/\E+1<=wr.heap.size/\Hid (Below E w6 wr)) (λ_ ix _=>dn - (intOf ix).toNat)
    case atStart=>exact⟨0,2,_,_,[(i:Int),qp],by omega,rfl,rfl,rfl,by omega,jq (λp hp=>by simp only[List.mem_cons,Qh,or_false] at hp;omega),AD,eX,jq (vQ _ _)⟩
    case round=>
     obtain⟨j,m,A,c,ps,hj,rfl,rfl,dY,jO,AI,HO,zy,bp⟩:=hrel;obtain⟨ws,rfl⟩:=afJ wr;have th:=aeX UY bp.out;have lI:=jq (Hi.out.keep HK.out bp.out hVE);have NN:=jq ((bp.out.block R (by omega)).trans W6.out);have bBZ:R+1<=ws.heap.size:=by omega
     by_cases ab:j<dn
     ·obtain⟨y,RL⟩:∃ y,x.set.data[j]?=some y:=⟨_,aQ (by rw[Ak.out];exact ab)⟩;obtain⟨bd,od,cd,ds,Qg,ES,_,_,ET,a0,a1,a2⟩:=El (jy.out.keep cJ bp.out) RL;simp only[Value.slice.injEq] at Qg;obtain⟨rfl,-,rfl⟩:=Qg;have jg:(0:Int)<=(j:Int):=by omega
      have qR:(j:Int)<(dn:Int):=by omega
      obtain⟨G,hG⟩:=afZ ws.heap.size;obtain⟨wg,pY⟩:=afZ (ws.alloc (.cells #[.string ds,.int .i64 y.n,.int .i64 y.m] 128));have aa:Below ws.heap.size ws wg:=by rw[<-pY];exact blAl
      have qv:=jq (eb [.string ds,.int .i64 y.n,.int .i64 y.m] 128 hG pY);have bvY:=jq (th.out.trans (aa.mono th.out.size));have Hj:=jq (lI.out.keep HK.out aa lI.out.lt);have bxX:=jq ((aa.block R (by omega)).trans NN.out);have hGg:G+1<=wg.heap.size:=by rw[<-pY];simp[hG]
      have xT:=aeX bp aa;have yk:Hid (wg.ownsRow E 3 1 (.slice A m c) m (ps.map (Value.int .i64))):=jq (dS HO.out (λg hg=>aa.block g (HO.out.lt g hg).2));clear RL aa;go_upto_region 12 with fail
      try rw[pY]
      clear pY a0 a1 a2;have g0:=qv.out 0 _ rfl;have c5:=Hj.out.cells 5 _ rfl;go_region_with (go_at_call 264;refine (aPZ ds k.cut ET HK.out.cut2 MI.out.1 wg.drew).mono ?_;rintro e wh ⟨bb,rfl,hb⟩;have aa:Below wg.heap.size wg wh:=(vQ wg.heap.size wg).drew.trans hb;have VT:=jq (Hj.out.keep HK.out aa Hj.out.lt);have Mw:=aeX xT aa;have Id:Hid (wh.ownsRow E 3 1 (.slice A m c) m (ps.map (Value.int .i64))):=jq (dS yk.out (λg hg=>aa.block g (yk.out.lt g hg).2));have VD:=jq (qv.out.keep aa (by omega));have RW:=aa.size;clear hb aa c5 g0)
      all_goals
       cases bb with
       | false=>
        go_wp2_with fail;go_roundw
        case rel=>exact⟨j+1,m,A,c,ps,by omega,by go_num,rfl,dY,by omega,AI,Id,by omega,Mw⟩
        ·simp[intOf]<;>omega
       | true=>
        have g1:=VD.out 0 _ rfl;go_wp2_with fail;clear g1;refine (uB HK.out VT.out ds 1).mono ?_;rintro e wi ⟨qx,bNZ,bNJ,rfl,-,aa⟩;have cB:=aeX Mw aa;have vg:Hid (wi.ownsRow E 3 1 (.slice A m c) m (ps.map (Value.int .i64))):=jq (dS Id.out (λg hg=>aa.block g (Id.out.lt g hg).2));have sP:=aa.size;clear aa;obtain⟨J,hJ⟩:=afZ wi.heap.size;obtain⟨wj,xe⟩:=afZ (wi.alloc (.cells #[.int .i64 qx] 3));have aa:Below wi.heap.size wi wj:=by rw[<-xe];exact blAl
        have ze:wj.ownsRow E 3 1 (.slice A m c) m (ps.map (Value.int .i64)):=dS vg.out (λg hg=>aa.block g (vg.out.lt g hg).2);have hzj:=aa.size;obtain⟨v',wk,iO,ko,lX⟩:=Yp ze 27 J qx ((eb [.int .i64 qx] 3 hJ xe) 0 _ rfl) (by omega) (by omega);obtain⟨vA,vc,rfl⟩:=oN ko;have kJ:=jq iO;have U3:=jq (cB.out.trans ((aa.afK).trans lX));have WB:Hid (wk.ownsRow E 3 1 (.slice vA (m+1) vc) (m+1) ((ps ++ [qx]).map (Value.int .i64))):=jq (by rw[List.map_append];exact ko);have hzk:=lX.size;have AH:Hid (∀ p∈ps ++ [qx],p<k.n):=jq (λp hp=>by
         rcases List.mem_append.1 hp with hp | hp
         ·exact AI.out p hp
         ·simp only[List.mem_singleton] at hp;omega)
        have QW:(ps ++ [qx]).length=m+1:=by simp[dY]
        have gl:=jq QW;clear iO ko lX ze aa QW;go_wp2_with (at_builtin;refine LY rfl _ _ 27 rfl _ _ _ wk rfl rfl kJ.out ?_;clear xe);go_roundw
        case rel=>exact⟨j+1,m+1,vA,vc,ps ++ [qx],by omega,by go_num,rfl,gl.out,by omega,AH,WB,by omega,U3⟩
        ·simp[intOf]<;>omega
     ·obtain rfl:j=dn:=by omega
      clear ab;have WE:=jq (aIQ HO.out dY (by omega));go_wp2_with fail;refine (uA HK.out lI.out 4 ps m dY (by omega) AI.out A c WE.out).mono ?_;rintro e wt ⟨aA,an,ac,rfl,aa⟩;have Mu:=jq (th.out.trans (aa.mono th.out.size));have M5:=jq (lI.out.keep HK.out aa lI.out.lt);have W9:=jq ((aa.block R (by omega)).trans NN.out);have hzt:=aa.size;obtain⟨T,hT⟩:=afZ wt.heap.size;obtain⟨wu,RF⟩:=afZ (wt.alloc (.cells #[.int .i64 4,.slice aA an ac,.string ⟨#[]⟩] 104));clear aa;have aa:Below wt.heap.size wt wu:=by rw[<-RF];exact blAl
      have Iy:Hid (wu.heap[T]?=some (.cells #[.int .i64 4,.slice aA an ac,.string ⟨#[]⟩] 104 (0,0))):=jq (by rw[<-RF,<-hT];exact heap_alloc_new _ _);have U0:=jq (Mu.out.trans (aa.mono Mu.out.size));have M6:=jq (M5.out.keep HK.out aa M5.out.lt);have Xa:=jq ((aa.block R (by omega)).trans W9.out);clear aa;have c5:=M6.out.cells 5 _ rfl;have k0:=ek [_,_,_] Iy.out;have kT0:=k0 0 _ rfl;have kT1:=k0 1 _ rfl;have kT2:=k0 2 _ rfl;have fT:∀ i,wu.frozen? ⟨T,i,none⟩=false:=λi=>by simp[World.frozen?,Iy.out]
      go_upto_region 17 with fail
      obtain⟨wv,Fr⟩:=afZ ((wu.setCell ⟨T,2,none⟩ (.string ⟨#[]⟩)).setCell ⟨T,2,none⟩ (.string k.cut));rw[Fr];have hTR:T≠R:=by omega
      have eC:Below T wu wv:=by rw[<-Fr];exact ((vQ T wu).setCell (bQ _) _).setCell (bQ _) _
      have PL:wv.heap[T]?=some (.cells #[.int .i64 4,.slice aA an ac,.string k.cut] 104 (0,0)):=by rw[<-Fr];simp[World.setCell,Array.getElem?_modify,Iy.out]
      have U1:=aeX U0 eC;have VU:=jq (M6.out.keep HK.out eC (by omega));have Im:=jq ((eC.block R (by omega)).trans Xa.out);have t0:=ek [_,_,_] PL;have tT0:=t0 0 _ rfl;have tT1:=t0 1 _ rfl;have tT2:=t0 2 _ rfl;have kR:=ek [_,_,_] Im.out;have kR0:=kR 0 _ rfl;have kR1:=kR 1 _ rfl;have kR2:=kR 2 _ rfl;have fR:∀ q,wv.frozen? ⟨R,q,none⟩=false:=λq=>by simp[World.frozen?,Im.out]
      clear eC PL Fr kT0 kT1 kT2 fT k0 c5;go_wp2_with fail;exact qg rfl HK.out VU.out (pu U1.out) hR gU Im.out 4 aA an ac k.cut true (λ_=>by decide) _ rfl rfl rfl
def iu(V:Nat)(nm:ByteArray)(q2:Int)(e2:Value)(e9:Value)(e11:Value)(e12:Value)(i:Nat):Value:=[.pointer (some ⟨V,0,none⟩),.pointer (some ⟨V,0,none⟩),e2,.pointer (some ⟨V,0,none⟩),.pointer (some ⟨V,0,none⟩),.pointer (some ⟨V,0,none⟩),.pointer (some ⟨V,3,none⟩),.pointer (some ⟨V,3,none⟩),.string nm,e9,.int .i64 q2,e11,e12,undef].getD i undef
def lw(i:Nat):Nat:=[15,16,17,18,19,20,21,22,23,24,25,26,27,1].getD i 0
def aBK:List Nat:=[0,1,3,4,5,6,7,8,10,2,9,11,12].map lw
theorem qW:∀ i∈[0,1,3,4,5,6,7,8,10,2,9,11,12],lw i<28/\lw i∈aBK:=by decide
theorem sK:∀ i∈[0,1,3,4,5,6,7,8,10,2,9,11,12],∀ j∈[0,1,3,4,5,6,7,8,10,2,9,11,12],j≠i->lw i≠lw j:=by decide
theorem bqJ(k:VwS)(hk:VwOk k)(wd:ByteArray)(w:World)(h:VwIn k wd w) :
 Calls prog 194 #[.pointer (some ⟨k.V,0,none⟩)] w (mX k w λkd d=>kd≠1):=by
 obtain⟨R,hR⟩:=afZ w.heap.size;obtain⟨wa,HK,cK,fM,iG,li,gU,bg⟩:=xE hk h hR;clear hk;go_enter func194,ntmps194;have c4:=cK.out.cells 4 _ rfl;have c7:=cK.out.cells 7 _ rfl;go_upto_region 1 with fail
 try clear bg
 go_still_tail 10,(by kernel_rfl);change wpList prog _ _ _ _ wa.drew;go_wp2_with fail;refine (uB HK.out (wd:=wd) (w:=wa.drew) (cK.out.keep HK.out (vQ wa.heap.size wa).drew cK.out.lt) wd k.ty).mono ?_;rintro e wp ⟨q,wV,l6,rfl,-,hb⟩;have aa:Below wa.heap.size wa wp:=(vQ wa.heap.size wa).drew.trans hb;have ie:=jq (fM.out.trans (aa.mono fM.out.size));have ea:=jq (cK.out.keep HK.out aa cK.out.lt);have kW:=jq ((aa.block R (by omega)).trans iG.out);have nn:R+1<=wp.heap.size:=yQ li aa.size;have c3:=ea.out.cells 3 _ rfl;clear hb aa c4 c7;go_wp2_with fail;refine (xG HK.out ea.out k.nm HK.out.nm2 HK.out.nm1).mono ?_;rintro e wc ⟨qc,Fg,Fh,rfl,aa⟩;have mi:=jq (ie.out.trans (aa.mono ie.out.size));have gO:=jq (ea.out.keep HK.out aa ea.out.lt);have rC:=jq ((aa.block R (by omega)).trans kW.out);have rO:R+1<=wc.heap.size:=yQ nn aa.size;replace c3:=gO.out.cells 3 _ rfl;clear aa;obtain⟨wx,aU⟩:=afJ (wc.alloc (.cells #[.int .i64 q,.int .i64 qc] 3));have aa:Below wc.heap.size wc wx:=by rw[aU];exact blAl
 have HP:=jq (xz (w:=wx) (B:=wx.heap.size) (b:=wc.heap.size) [q,qc] (eb [.int .i64 q,.int .i64 qc] 3 rfl aU.symm) (by rw[aU];simp) rfl (by simp));have jX:=jq (mi.out.trans (aa.mono mi.out.size));have ee:=jq (gO.out.keep HK.out aa gO.out.lt);have pi:=jq ((aa.block R (by omega)).trans rC.out);have pB:R+1<=wx.heap.size:=yQ rO aa.size;replace c3:=ee.out.cells 3 _ rfl;clear aa c3;go_wp2_with fail
 try rw[<-aU]
 try clear aU
 refine (uA HK.out ee.out 2 [q,qc] 2 rfl (by decide) (λp hp=>by simp only[List.mem_cons,Qh,or_false] at hp;omega) _ 2 HP.out).mono ?_;rintro e wy ⟨aA,an,ac,rfl,aa⟩;have lG:=jq (jX.out.trans (aa.mono jX.out.size));have ig:=jq (ee.out.keep HK.out aa ee.out.lt);have gC:=jq ((aa.block R (by omega)).trans pi.out);have BH:R+1<=wy.heap.size:=yQ pB aa.size;have kR:=ek [_,_,_] gC.out;have kR0:=kR 0 _ rfl;have kR1:=kR 1 _ rfl;have kR2:=kR 2 _ rfl;have fR:∀ i,wy.frozen? ⟨R,i,none⟩=false:=λi=>by simp[World.frozen?,gC.out]
 clear aa;go_wp2_with fail;exact qg rfl HK.out ig.out (pu lG.out) hR gU gC.out 2 aA an ac _ _ (by decide) _ rfl rfl rfl
theorem aTZ(k:VwS)(hk:VwOk k)(wd:ByteArray)(w:World)(h:VwIn k wd w) :
 Calls prog 197 #[.pointer (some ⟨k.V,0,none⟩)] w λe w'=>∃ A n m,e = .returned (.agg #[.int .i64 6,.slice A n m,.string ⟨#[]⟩])/\Below k.V w w':=by
 obtain⟨R,hR⟩:=afZ w.heap.size;obtain⟨wa,HK,cK,fM,iG,li,gU,bg⟩:=xE hk h hR;clear hk;go_enter func197,ntmps197;have c7:=cK.out.cells 7 _ rfl;by_cases mF:wd=⟨#[]⟩
 case' pos=>
  subst mF;go_upto_region 4 with fail
  try rw[bg]
  try clear bg
  obtain⟨q2,Q2,Q3,l6⟩:∃ q2:Int,-1<=q2/\q2<k.n/\(-1:Int)=q2:=⟨-1,by omega,by omega,rfl⟩;rw[l6];clear l6 c7;have ea:=cK;have ie:=fM;have kW:=iG;have nn:=li;clear cK fM iG li;obtain⟨wp,rfl⟩:=afJ wa
 case' neg=>
  have am:(wd.toList == [])=false:=by
   simp only[beq_eq_false_iff_ne,ne_eq,dQ];exact λe=>mF (iC e)
  have HW:Hid (Np.al wd.data.toList=true/\wd.size<=140737488355328):=jq ⟨h.wd1.resolve_left mF,h.wd2⟩;clear mF;go_wp2_with fail
  try rw[bg]
  try clear bg
  refine (xG HK.out cK.out wd HW.out.2 HW.out.1).mono ?_;rintro e wp ⟨q2,Q2,Q3,rfl,aa⟩;have ie:=jq (fM.out.trans (aa.mono fM.out.size));have ea:=jq (cK.out.keep HK.out aa cK.out.lt);have kW:=jq ((aa.block R (by omega)).trans iG.out);have nn:R+1<=wp.heap.size:=yQ li aa.size;clear aa c7 cK fM iG li;go_upto_region 4 with fail
 all_goals
  have c3:=ea.out.cells 3 _ rfl;obtain⟨wd0,aU⟩:=afJ wp.drew;have aa:Below wp.heap.size wp wd0:=by rw[aU];exact (vQ _ _).drew
  have mj:=jq (ie.out.trans (aa.mono ie.out.size));have gb:=jq (ea.out.keep HK.out aa ea.out.lt);have rD:=jq ((aa.block R (by omega)).trans kW.out);have rP:R+1<=wd0.heap.size:=yQ nn aa.size;replace c3:=gb.out.cells 3 _ rfl;clear aa;refine zT λa0 aV=>?_;have gz:=jq aV;have eh:=jq (show a0.eval (.tmp 0) = .pointer (some ⟨k.V,0,none⟩) by rw[aV];rfl);have dU:=jq (show a0.eval (.tmp 1)=undef by rw[aV];rfl);have fN:=jq (show a0.eval (.tmp 2) = .pointer (some ⟨R,0,none⟩) by rw[aV];rfl);have pk:=jq (show a0.eval (.tmp 3) = .int .i64 q2 by rw[aV];rfl);have HM:=jq (show a0.tmps.size=28 by rw[aV];rfl);clear aV;refine wp_region_any (by kernel_rfl) ?_;change wpAny prog .any _ _ _ _ _ wp.drew;rw[<-aU];clear aU;refine dt 2 (D:=[0,1,3,4,5,6,7,8,10]) (val:=iu k.V k.nm q2 undef undef undef undef) qW sK (rY HM.out) (by kernel_rfl) ?_ ?_
  ·intro i az aC o ho a' hb aq;have k0':=agK hb eh.out;have k3':=agK hb pk.out;simp[Act.eval] at k0' k3'
   repeat' (rcases az with _ | ⟨_,az⟩)
   all_goals first
    | (exfalso;simp at aC;done)
    | (cases ho
       try simp[Act.eval,Region.binds,iu,lw] at aq
       refine dh (by simp[Region.wanted]) ?_;simp[Oper.quietAt,Oper.quietUpon,execOp,go_sem,iu,k0',k3',c3,aq])
  ·intro f listed a' hH hr hv;have av1:=hv 1;simp[Act.eval,iu,lw] at av1;simp only[wpOp];simp[Region.wanted];refine .inl ?_;simp[Oper.wp,go_sem,av1];refine (LP HK.out gb.out).mono ?_;rintro e wc0 ⟨q0,Q0,Q1,rfl,aa⟩;have tg:=jq (mj.out.trans (aa.mono mj.out.size));have lH:=jq (gb.out.keep HK.out aa gb.out.lt);have AO:=jq ((aa.block R (by omega)).trans rD.out);have BG:R+1<=wc0.heap.size:=yQ rP aa.size;replace c3:=lH.out.cells 3 _ rfl;clear aa;dsimp only;refine dt 9 (D:=[0,1,3,4,5,6,7,8,10,2]) (val:=iu k.V k.nm q2 (.int .i64 q0) undef undef undef) qW sK (hH.next qW sK hr) (by kernel_rfl) ?_ ?_
   ·intro i az aC o ho a' hb aq;have k0':=agK hb eh.out;have k3':=agK hb pk.out;simp[Act.eval] at k0' k3'
    repeat' (rcases az with _ | ⟨_,az⟩)
    all_goals first
     | (exfalso;simp at aC;done)
     | (cases ho
        try simp[Act.eval,Region.binds,iu,lw] at aq
        refine dh (by simp[Region.wanted]) ?_;simp[Oper.quietAt,Oper.quietUpon,execOp,go_sem,iu,k0',k3',c3,aq])
   ·intro f listed a' hH hr hv;have av3:=hv 3;have av8:=hv 8;simp[Act.eval,iu,lw] at av3 av8;simp only[wpOp];simp[Region.wanted];refine .inl ?_;simp[Oper.wp,go_sem,av3,av8];refine (xG HK.out lH.out k.nm HK.out.nm2 HK.out.nm1).mono ?_;rintro e wc ⟨qc,Fg,Fh,rfl,aa⟩;have mi:=jq (tg.out.trans (aa.mono tg.out.size));have gO:=jq (lH.out.keep HK.out aa lH.out.lt);have rC:=jq ((aa.block R (by omega)).trans AO.out);have rO:R+1<=wc.heap.size:=yQ BG aa.size;replace c3:=gO.out.cells 3 _ rfl;clear aa;dsimp only;refine dt 11 (D:=[0,1,3,4,5,6,7,8,10,2,9]) (val:=iu k.V k.nm q2 (.int .i64 q0) (.int .i64 qc) undef undef) qW sK (hH.next qW sK hr) (by kernel_rfl) ?_ ?_
    ·intro i az aC o ho a' hb aq;have k0':=agK hb eh.out;have k3':=agK hb pk.out;simp[Act.eval] at k0' k3'
     repeat' (rcases az with _ | ⟨_,az⟩)
     all_goals first
      | (exfalso;simp at aC;done)
      | (cases ho
         try simp[Act.eval,Region.binds,iu,lw] at aq
         refine dh (by simp[Region.wanted]) ?_;simp[Oper.quietAt,Oper.quietUpon,execOp,go_sem,iu,k0',k3',c3,aq])
    ·intro f listed a' hH hr hv;have av2:=hv 2;have av9:=hv 9;have av10:=hv 10;simp[Act.eval,iu,lw] at av2 av9 av10;simp only[wpOp];simp[Region.wanted];refine .inl ?_;simp[Oper.wp,execOp,go_sem,av2,av9,av10];obtain⟨wx,aU⟩:=afJ (wc.alloc (.cells #[.int .i64 q0,.int .i64 qc,.int .i64 q2] 3));rw[<-aU];have aa:Below wc.heap.size wc wx:=by rw[aU];exact blAl
     have HP:=jq (xz (w:=wx) (B:=wx.heap.size) (b:=wc.heap.size) [q0,qc,q2] (eb [.int .i64 q0,.int .i64 qc,.int .i64 q2] 3 rfl aU.symm) (by rw[aU];simp) rfl (by simp));have jX:=jq (mi.out.trans (aa.mono mi.out.size));have ee:=jq (gO.out.keep HK.out aa gO.out.lt);have pi:=jq ((aa.block R (by omega)).trans rC.out);have pB:R+1<=wx.heap.size:=yQ rO aa.size;replace c3:=ee.out.cells 3 _ rfl;clear aU aa;refine dt 12 (D:=[0,1,3,4,5,6,7,8,10,2,9,11]) (val:=iu k.V k.nm q2 (.int .i64 q0) (.int .i64 qc) (.slice (some ⟨wc.heap.size,0,none⟩) 3 3) undef) qW sK (hH.next qW sK hr) (by kernel_rfl) ?_ ?_
     ·intro i az aC o ho a' hb aq;have k0':=agK hb eh.out;have k3':=agK hb pk.out;simp[Act.eval] at k0' k3'
      repeat' (rcases az with _ | ⟨_,az⟩)
      all_goals first
       | (exfalso;simp at aC;done)
       | (cases ho
          try simp[Act.eval,Region.binds,iu,lw] at aq
          refine dh (by simp[Region.wanted]) ?_;simp[Oper.quietAt,Oper.quietUpon,execOp,go_sem,iu,k0',k3',c3,aq])
     ·intro f listed a' hH hr hv;have av0:=hv 0;have av11:=hv 11;simp[Act.eval,iu,lw] at av0 av11;simp only[wpOp];simp[Region.wanted];refine .inl ?_;simp[Oper.wp,go_sem,av0,av11];refine (uA HK.out ee.out 6 [q0,qc,q2] 3 rfl (by decide) (λp hp=>by simp only[List.mem_cons,Qh,or_false] at hp;omega) _ 3 HP.out).mono ?_;rintro e wy ⟨aA,an,ac,rfl,aa⟩;have lG:=jq (jX.out.trans (aa.mono jX.out.size));have ig:=jq (ee.out.keep HK.out aa ee.out.lt);have gC:=jq ((aa.block R (by omega)).trans pi.out);have BH:R+1<=wy.heap.size:=yQ pB aa.size;replace c3:=ig.out.cells 3 _ rfl;clear aa;dsimp only;refine dt 13 (D:=[0,1,3,4,5,6,7,8,10,2,9,11,12]) (val:=iu k.V k.nm q2 (.int .i64 q0) (.int .i64 qc) (.slice (some ⟨wc.heap.size,0,none⟩) 3 3) (.agg #[.int .i64 6,.slice aA an ac,.string ⟨#[]⟩])) qW sK (hH.next qW sK hr) (by kernel_rfl) ?_ ?_
      ·intro i az aC o ho a' hb aq;have k0':=agK hb eh.out;have k3':=agK hb pk.out;simp[Act.eval] at k0' k3'
       repeat' (rcases az with _ | ⟨_,az⟩)
       all_goals first
        | (exfalso;simp at aC;done)
        | (cases ho
           try simp[Act.eval,Region.binds,iu,lw] at aq
           refine dh (by simp[Region.wanted]) ?_;simp[Oper.quietAt,Oper.quietUpon,execOp,go_sem,iu,k0',k3',c3,aq])
      ·intro f listed a' hH hr hv;have av12:=hv 12;simp[Act.eval,iu,lw] at av12;simp only[wpOp];simp[Region.wanted];refine .inl ?_;have kR:=ek [_,_,_] gC.out;have kR0:=kR 0 _ rfl;have kR1:=kR 1 _ rfl;have kR2:=kR 2 _ rfl;have fR:∀ i,wy.frozen? ⟨R,i,none⟩=false:=λi=>by simp[World.frozen?,gC.out]
       have k2':=(aJ hH.good.base (j:=2) (by decide) (by decide)).trans fN.out;simp[Act.eval] at k2';simp[Oper.wp,execOp,go_sem,av12,kR0,kR1,kR2,fR,k2'];obtain⟨ws,aU⟩:=afJ (((wy.setCell ⟨R,0,none⟩ (.int .i64 6)).setCell ⟨R,1,none⟩ (.slice aA an ac)).setCell ⟨R,2,none⟩ (.string ⟨#[]⟩));rw[<-aU];refine uD hH hr HM.out qW (by kernel_rfl) λfE=>?_;rw[fE];rw[gz.out];simp[iA,Act.put,iu,lw];clear hv hH fE kR kR0 kR1 kR2 fR k2';go_wp2_with fail;have pL:ws.heap[R]?=some (.cells #[.int .i64 6,.slice aA an ac,.string ⟨#[]⟩] 104 (0,0)):=by rw[aU];simp[World.setCell,Array.getElem?_modify,gC.out]
       have aa:Below R wy ws:=by rw[aU];exact (((vQ R wy).blSe _).blSe _).blSe _
       have nC:=run_loadVar_row (P:=prog) _ _ 104 104 _ (0,0) _ pL underlying104 rfl (by kernel_rfl);exact bodyPost_ret (Tr rfl _ _ _ _ rfl nC) rfl ⟨_,_,_,rfl,(lG.out.afK).trans (aa.afK)⟩
theorem aXQ{kvs:List ((List UInt8×Int)×Value)}{l:List Np.Signed}{x:Np.Signed}(h:Np.tA kvs l)(hx:∀ y∈l,Np.cx y.set≠Np.cx x.set):kvs.lookup (Np.cx x.set)=none/\Np.tA (kvs ++ [(Np.cx x.set,.int .i64 l.length)]) (l ++ [x]):=by
 have h0:kvs.lookup (Np.cx x.set)=none:=by
  rcases h (Np.cx x.set) with ⟨i,y,hy,hk,_⟩ | ⟨h1,_⟩
  ·exact absurd hk (hx y (gQ hy))
  ·exact h1
 refine⟨h0,λp=>?_⟩;rw[List.lookup_append];rcases h p with ⟨i,y,hy,hk,hl⟩ | ⟨h1,h2⟩
 ·refine .inl ⟨i,y,by rw[List.getElem?_append_left (cQ.1 hy).1];exact hy,hk,by rw[hl];rfl⟩
 ·by_cases hp:Np.cx x.set=p
  ·refine .inl ⟨l.length,x,by simp,hp,?_⟩;rw[h1,<-hp];simp[List.lookup]
  ·refine .inr ⟨?_,λy hy=>?_⟩
   ·rw[h1]
    have:(p == Np.cx x.set)=false:=by simp only[beq_eq_false_iff_ne,ne_eq];exact λe=>hp e.symm
    simp[List.lookup,this]
   ·rcases List.mem_append.1 hy with hy | hy
    ·exact h2 y hy
    ·simp only[List.mem_singleton] at hy;rw[hy];exact hp
theorem aWY:Np.tA [] []:=λp=>.inr ⟨rfl,λy hy=>by cases hy⟩
theorem bgK{l:List Np.Signed}(hs:Np.rI l){k:Nat}{x:Np.Signed}(hx:l[k]?=some x):∀ y∈l.take k,Np.cx y.set≠Np.cx x.set:=λy hy e=>by
 obtain⟨j,hj⟩:=List.getElem?_of_mem hy;rw[List.getElem?_take] at hj;split at hj
 ·rename_i ab
  have:=Gc hs hj hx ab
  rw[e,Np.xD.self] at this;omega
 ·cases hj
theorem aSK(ap:ByteArray)(A:Option Addr)(n c:Nat)(xs:List Np.Signed)(hn:xs.length=n)(pR:n<=20000)(hs:Np.rI xs)(nm:ByteArray)(ty:Int)(w:World)(hx:SlR br 5 w w.heap.size (.slice A n c) xs) :
 Calls prog 189 #[.agg #[.string ap,.slice A n c],.agg #[.string nm,.int .i64 ty]] w λe w'=>∃ (V r:Nat) (kvs:List ((List UInt8×Int)×Value)),e = .returned (.pointer (some ⟨V,0,none⟩))/\w.heap.size<=r/\r<V/\Np.tA kvs xs/\iH r kvs w'/\
  w'.heap[V]?=some (.cells #[.string ap,.slice A n c,.map (some r),.string nm,.int .i64 ty,.string ⟨#[]⟩,.bool false,.string ⟨#[]⟩] 257 (0,0))/\Below w.heap.size w w':=by
 have HX:=jq hx;have HN:=jq hn;have HS:=jq hs;obtain⟨X,hX⟩:=afZ w.heap.size;obtain⟨wa,bg⟩:=afZ ((w.alloc (.cells #[.string ap,.slice A n c] 44)).alloc (.cells #[.string nm,.int .i64 ty] 31));have ky:wa.heap.size=X+2:=by rw[<-bg];simp[hX]
 have tj:Hid (Below X w wa):=jq (by rw[<-bg,<-hX];exact (blAl).alloc (by simp) _);have c0:wa.cell? ⟨X,0,none⟩=some (.string ap):=by rw[<-bg,<-hX];simp[go_sem]
 have c1:wa.cell? ⟨X,1,none⟩=some (.slice A n c):=by rw[<-bg,<-hX];simp[go_sem]
 have d0:wa.cell? ⟨X+1,0,none⟩=some (.string nm):=by rw[<-bg,<-hX];simp[go_sem]
 have d1:wa.cell? ⟨X+1,1,none⟩=some (.int .i64 ty):=by rw[<-bg,<-hX];simp[go_sem]
 have sr:∀ (w:World),(Instr.makeMap 255 (some (.int .i64 n))).run prog w = .ok (.map (some w.heap.size)) (w.alloc (.map #[] 0)):=λw=>by
  simp[Instr.makeMap,asInt,asIntOf,Result.andThen]
 clear hx hn hs;go_enter func189,ntmps189;go_upto_region 1 with fail
 try rw[bg]
 clear bg;go_region;obtain⟨wb,eW⟩:=afZ (((wa.alloc (.map #[] 0)).alloc (.cells #[.string ap,.slice A n c,.map (some (X+2)),.string nm,.int .i64 ty,.string ⟨#[]⟩,.bool false,.string ⟨#[]⟩] 257)).drew);rw[eW];have JO:Below (X+2) wa wb:=by rw[<-eW];exact (((vQ _ _).alloc (by omega) _).alloc (by simp;omega) _).drew
 have iz:wb.heap.size=X+4:=by rw[<-eW];simp[ky]
 have Wm:Hid (iH (X+2) [] wb):=jq (by
  have h:=iH.made wa;rw[ky] at h;rw[<-eW];exact h.keep (n:=X+3) (((vQ _ _).alloc (by simp;omega) _).drew) (by omega))
 have XI:Hid (wb.heap[X+2+1]?=some (.cells #[.string ap,.slice A n c,.map (some (X+2)),.string nm,.int .i64 ty,.string ⟨#[]⟩,.bool false,.string ⟨#[]⟩] 257 (0,0))):=jq (by
  rw[<-eW]
  have:=heap_alloc_new (wa.alloc (.map #[] 0)) (.cells #[.string ap,.slice A n c,.map (some (X+2)),.string nm,.int .i64 ty,.string ⟨#[]⟩,.bool false,.string ⟨#[]⟩] 257)
  simp only[World.size_alloc,ky] at this;exact this)
 have Ag:=aeX tj JO;have q1:wb.cell? ⟨X,1,none⟩=some (.slice A n c):=aeK JO c1;clear JO eW c0 c1 d0 d1 sr;go_wp2_with fail;clear q1;go_loopw [22] (λi wr=>∃ k:Nat,k<=n/\i = .int .i64 k/\X+4<=wr.heap.size/\Hid (Below X w wr)/\Hid (wr.heap[X+2+1]?=some (.cells #[.string ap,.slice A n c,.map (some (X+2)),.string nm,.int .i64 ty,.string ⟨#[]⟩,.bool false,.string ⟨#[]⟩] 257 (0,0)))/\∃ kvs,Hid (iH (X+2) kvs wr)/\Hid (Np.tA kvs (xs.take k))) (λi _=>n - (intOf i).toNat)
 case atStart=>exact⟨0,by omega,rfl,by omega,Ag,XI,[],Wm,jq aWY⟩
 case round=>
  obtain⟨k,hk,rfl,ay,HB,HV,kvs,HM,HP⟩:=hrel;obtain⟨ws,rfl⟩:=afJ wr;by_cases ab:k<n
  ·obtain⟨x,zq⟩:∃ x,xs[k]?=some x:=⟨_,aQ (by rw[HN.out];exact ab)⟩;obtain⟨b,o,c2,s,dv,sv,hA,b7,_,aD,_,aY,aN,e0,e1,e2,e3,e4⟩:=dB (HX.out.later aP bK (by rw[hX];exact HB.out)) zq;simp only[Value.slice.injEq] at hA;obtain⟨rfl,-,rfl⟩:=hA;obtain⟨dA,dn,dc,rfl,_,_,_⟩:=xB aY;obtain⟨gA,gn,gc,rfl,_,_,_⟩:=xB aN;have aZ:=jq aD;have N9:=jq zq;have cj:=kNN k;have ck:(k:Int)<(n:Int):=by omega
   obtain⟨E,hE⟩:=afZ ws.heap.size;obtain⟨wc,qZ⟩:=afZ (ws.alloc (.cells #[.string s,.int .i64 x.set.type,.int .i64 x.set.life,.slice dA dn dc,.slice gA gn gc] 42));clear zq aY aN aD;go_upto_region 5 with fail
   have RT:wc.heap.size=E+1:=by rw[<-qZ];simp[hE]
   have vP:Below ws.heap.size ws wc:=by rw[<-qZ];exact blAl
   have Jm:=ek [_,_,_,_,_] (show wc.heap[E]?=some (.cells #[.string s,.int .i64 x.set.type,.int .i64 x.set.life,.slice dA dn dc,.slice gA gn gc] 42 (0,0)) by rw[<-qZ,<-hE];exact heap_alloc_new _ _);have Do:=jq (HB.out.trans (vP.mono (by have:=HB.out.size;omega)));have N4:=jq ((vP.block (X+2+1) (by omega)).trans HV.out);have Wn:=jq (HM.out.keep vP (by omega));have m0:=Jm 0 _ rfl;have m1:=Jm 1 _ rfl;have v2:=ek [_,_,_,_,_,_,_,_] N4.out 2 _ rfl;clear qZ vP Jm e0 e1 e2 e3 e4;go_still_tail 12,(by kernel_rfl);have nA:(xs.take k).length=k:=by rw[List.length_take,HN.out];omega
   obtain⟨fG,Fc⟩:=aXQ HP.out (bgK HS.out N9.out);rw[nA] at Fc;have so:Np.cx x.set=(s.data.toList,x.set.type):=by rw[aZ.out];rfl
   have PK:xs.take (k+1)=xs.take k ++ [x]:=by
    obtain⟨hl,he⟩:=cQ.1 N9.out;rw[fQ hl,he]
   have AI:Hid (Np.tA (kvs ++ [(Np.cx x.set,.int .i64 k)]) (xs.take (k+1))):=jq (by rw[PK];exact Fc);have GE:Hid (Below X w wc.drew):=jq Do.out.drew;clear Fc PK;change wpList prog _ _ _ _ wc.drew;refine btJ wc.drew rfl _ _ _ 255 rfl 3 underlying255 (X+2) kvs rfl (Wn.out.keep' (w':=wc.drew) rfl) (Np.cx x.set) (by rw[so,SN];rfl) (.int .i64 k) rfl fG ?_;intro wU Cj jR;have ve:=jq Cj;have uM:=jq (GE.out.trans (jR.below (n:=X) (by omega)));have RQ:X+4<=wU.heap.size:=by rw[jR.size];simp;omega
   have XF:=jq ((jR.block (X+2+1) (by omega)).trans N4.out);clear Cj jR fG so m0 m1 v2;go_wp2_with fail;go_roundw
   case rel=>exact⟨k+1,by omega,by go_num,RQ,uM,XF,_,ve,AI⟩
   ·simp[intOf]<;>omega
  ·obtain rfl:k=n:=by omega
   have Ie:Hid (Np.tA kvs xs):=jq (by have:=HP.out;rwa [kQ (by rw[HN.out];omega)] at this);have Py:Below w.heap.size w ws:=by rw[hX];exact HB.out
   have Gx:=jq Py;have fF:w.heap.size<=X+2:=by omega
   clear ab Py;go_wp2_with fail;go_ret;exact⟨X+2+1,X+2,kvs,rfl,fF,by omega,Ie.out,HM.out,HV.out,Gx.out⟩
def sH:List FuncId:=[190,191,192,193,194,195,196]
def On(j:Nat)(nm ap:List UInt8)(kd:Int)(d:Bool):Prop:=(j=1->kd=1/\(d=true↔nm=ap))/\(j=0->nm=ap->d=false)/\(j≠1->d=true->kd≠1)
theorem mX.imp{k:VwS}{w:World}{c c':Int->Bool->Prop}{e:Ending}{w':World}(h:mX k w c e w')(hc:∀ kd d,c kd d->c' kd d):mX k w c' e w':=by
 obtain⟨kd,A,n,m,cs,d,h1,h2,h3⟩:=h;exact⟨kd,A,n,m,cs,d,h1,hc _ _ h2,h3⟩
theorem blZ{k:VwS}(hk:VwOk k)(cw:k.ty=4)(ax:Np.fS k.xs k.nm.data.toList 4↔k.nm.data.toList=k.ap.data.toList)(mx:k.nm.data.toList=k.ap.data.toList->k.bh=false){j:Nat}{f:FuncId}(hj:sH[j]?=some f) :
 (∀ args w,(callFunc f args).run prog w = .ok (.enter f args) w)/\∀ (wd:ByteArray) (w:World),VwIn k wd w->Calls prog f #[.pointer (some ⟨k.V,0,none⟩)] w (mX k w (On j k.nm.data.toList k.ap.data.toList)):=by
 have hh:k.nm.data.toList=k.ap.data.toList->∀ d,(d=true->k.bh=true)->d=false:=λh d hd=>by
  cases d with
  | false=>rfl
  | true=>have:=mx h;rw[hd rfl] at this;cases this
 match j,hj with
 | 0,hj=>
  cases hj
  exact⟨enters_of func190 (by kernel_rfl) rfl,λwd w h=>(a6X k hk cw wd w h).mono λe w' r=>r.imp λkd d hc=>⟨λh=>absurd h (by decide),λ_ h=>hh h d hc.2,λ_=>hc.1⟩⟩
 | 1,hj=>
  cases hj
  exact⟨enters_of func191 (by kernel_rfl) rfl,λwd w h=>(Zn k hk wd w h).mono λe w' r=>r.imp λkd d hc=>⟨λ_=>⟨hc.1,by rw[hc.2,cw];exact ax⟩,λh=>absurd h (by decide),λh=>absurd rfl h⟩⟩
 | 2,hj=>
  cases hj
  exact⟨enters_of func192 (by kernel_rfl) rfl,λwd w h=>(Yf k hk wd w h).mono λe w' r=>r.imp λkd d hc=>⟨λh=>absurd h (by decide),λh=>absurd h (by decide),λ_ _=>hc⟩⟩
 | 3,hj=>
  cases hj
  exact⟨enters_of func193 (by kernel_rfl) rfl,λwd w h=>(aSY k hk wd w h).mono λe w' r=>r.imp λkd d hc=>⟨λh=>absurd h (by decide),λh=>absurd h (by decide),λ_=>hc⟩⟩
 | 4,hj=>
  cases hj
  exact⟨enters_of func194 (by kernel_rfl) rfl,λwd w h=>(bqJ k hk wd w h).mono λe w' r=>r.imp λkd d hc=>⟨λh=>absurd h (by decide),λh=>absurd h (by decide),λ_ _=>hc⟩⟩
 | 5,hj=>
  cases hj
  exact⟨enters_of func195 (by kernel_rfl) rfl,λwd w h=>(bqQ k hk wd w h).mono λe w' r=>r.imp λkd d hc=>⟨λh=>absurd h (by decide),λh=>absurd h (by decide),λ_ _=>hc⟩⟩
 | 6,hj=>
  cases hj
  exact⟨enters_of func196 (by kernel_rfl) rfl,λwd w h=>(bqZ k hk wd w h).mono λe w' r=>r.imp λkd d hc=>⟨λh=>absurd h (by decide),λh=>absurd h (by decide),λ_=>hc⟩⟩
 | j+7,hj=>simp[sH] at hj
def XW(nm ap:List UInt8)(w:World)(e:Ending)(w':World):Prop:=
 ∃ (kd:Int) (A':Option Addr) (n' m':Nat) (cs:ByteArray),e = .returned (.tuple #[.agg #[.int .i64 kd,.slice A' n' m',.string cs],.int .i64 0])/\(kd=1↔nm=ap)/\Below w.heap.size w w'
theorem bhY{ap nm:List UInt8}{xs:List Np.Signed}(hz:Np.VZone ⟨ap,xs⟩):Np.fS xs nm 4↔nm=ap:=by
 constructor
 ·rintro⟨x,hx,hn,ht⟩;have h:=hz.fits x hx;rw[ht] at h
  have:(x.set.name == ap)=true:=by simpa [Np.je] using h
  rw[<-hn];simpa using this
 ·rintro rfl;obtain⟨x,hx,hn,ht⟩:=hz.start;exact⟨x,hx,hn,ht⟩
theorem aOX(ap:ByteArray)(iO:ap.size<=140737488355328)(A:Option Addr)(n c:Nat)(xs:List Np.Signed)(hn:xs.length=n)(hz:Np.VZone ⟨ap.data.toList,xs⟩)(tW:∀ x∈xs,x.set.data.length<=1000/\x.sigs.length<=1000)(nm:ByteArray)(ub:nm.size<=140737488355328)(hv:Np.al nm.data.toList=true)(hu:Np.aX nm.data.toList ap.data.toList=true)
 (w:World) (hR:gq w w.heap.size) (hx:SlR br 5 w w.heap.size (.slice A n c) xs) :
 Calls prog 119 #[.agg #[.string ap,.slice A n c],.agg #[.string nm,.int .i64 4]] w
  (XW nm.data.toList ap.data.toList w):=by
 have HN:=jq hn;have HZ:=jq hz;have HF:=jq tW;have HV:=jq hv;have HU:=jq hu;have ef:=jq hR;have HX:=jq hx;have kJ:=jq iO;have DL:=jq ub;have pR:n<=20000:=by rw[<-hn];exact hz.few
 clear hn hz tW hv hu hR hx iO ub;obtain⟨X,hX⟩:=afZ w.heap.size;obtain⟨wa,bg⟩:=afZ (((w.alloc (.cells #[.string ap,.slice A n c] 44)).alloc (.cells #[.string nm,.int .i64 4] 31)).alloc (.cells #[.int .i64 0,.slice none 0 0,.string ⟨#[]⟩] 104));have ky:wa.heap.size=X+3:=by rw[<-bg];simp[hX]
 have tj:Hid (Below X w wa):=jq (by rw[<-bg,<-hX];exact ((blAl).alloc (by simp) _).alloc (by simp;omega) _);have qr:Hid (ic wa X [.string ap,.slice A n c]):=jq (by
  rw[<-bg,<-hX];exact ((eb [.string ap,.slice A n c] 44 rfl rfl).keep (blAl) (by simp)).keep (blAl) (by simp;omega))
 have mS:Hid (ic wa (X+1) [.string nm,.int .i64 4]):=jq (by
  rw[<-bg,<-hX]
  have:=eb (w:=w.alloc (.cells #[.string ap,.slice A n c] 44)) (X:=w.heap.size+1) [.string nm,.int .i64 4] 31 (by simp) rfl
  exact this.keep (blAl) (by simp))
 have In:Hid (wa.heap[X+2]?=some (.cells #[.int .i64 0,.slice none 0 0,.string ⟨#[]⟩] 104 (0,0))):=jq (by
  rw[<-bg,<-hX]
  have:=heap_alloc_new ((w.alloc (.cells #[.string ap,.slice A n c] 44)).alloc (.cells #[.string nm,.int .i64 4] 31)) (.cells #[.int .i64 0,.slice none 0 0,.string ⟨#[]⟩] 104)
  simpa using this)
 have j0:=qr.out 0 _ rfl;have j1:=qr.out 1 _ rfl;have i0:=mS.out 0 _ rfl;have i1:=mS.out 1 _ rfl;go_enter func119,ntmps119;go_wp2_with fail
 try rw[bg]
 try clear bg
 refine (Zi ap kJ.out A n c xs HN.out HZ.out nm DL.out HV.out HU.out wa (by have:=ef.out.keep (by rw[hX];exact tj.out);exact this.more (by omega)) (HX.out.later aP bK (by rw[hX];exact tj.out))).mono ?_;rintro e w2 ⟨p,b,rfl,dN,hp,QV,hb⟩;have kU:=jq dN;have HP:=jq hp;have Ie:=jq QV;have aO:=hb.size;have ah:=aeX tj hb;have GK:=jq (qr.out.keep hb (by omega));have xV:=jq (mS.out.keep hb (by omega));have gP:=jq ((hb.block (X+2) (by omega)).trans In.out);clear hb hp QV dN;replace j0:=GK.out 0 _ rfl;replace j1:=GK.out 1 _ rfl;replace i0:=xV.out 0 _ rfl;replace i1:=xV.out 1 _ rfl;go_wp2_with fail;refine (aSK ap A n c xs HN.out pR (Lr (Np.VZone.inOrder HZ.out.right)) nm 4 w2 (HX.out.later aP bK (by rw[hX];exact ah.out))).mono ?_;rintro e w3 ⟨V,r,kvs,rfl,gJ,zi,nG,hm,vR,hb⟩;have dR:=hb.size;have EI:V<w3.heap.size:=(eQ.1 vR).1;have WG:=jq nG;have HM:=jq hm;have UH:=jq vR;have aw:=aeX ah hb;have bwQ:=jq (GK.out.keep hb (by omega));have GM:=jq (xV.out.keep hb (by omega));have qC:=jq ((hb.block (X+2) (by omega)).trans gP.out);have yK:X+3<=r:=by omega
 have zl:=ek [_,_,_,_,_,_,_,_] vR;have v5:=zl 5 _ rfl;have v6:=zl 6 _ rfl;have fV:∀ i,w3.frozen? ⟨V,i,none⟩=false:=λi=>by simp[World.frozen?,vR]
 clear hb nG hm vR zl j0 j1 i0 i1;go_upto_region 10 with fail
 obtain⟨w5,aK⟩:=afZ ((w3.setCell ⟨V,5,none⟩ (.string p)).setCell ⟨V,6,none⟩ (.bool b));rw[aK];have aG:Below V w3 w5:=by rw[<-aK];exact ((vQ V w3).setCell (bQ _) _).setCell (bQ _) _
 have lB:=aG.size;have cg:=aeX aw aG;have Ik:=jq ((aG.block (X+2) (by omega)).trans qC.out);obtain⟨k,hk⟩:∃ k:VwS,k=⟨V,r,X,ap,A,n,c,xs,nm,4,p,b,kvs⟩:=⟨_,rfl⟩;have HK:Hid (VwOk k):=jq (by
  subst hk;exact⟨HN.out,pR,HF.out,λx hx=>zO ((Np.uG HZ.out).2 x hx),(Np.uG HZ.out).1,kJ.out,HV.out,DL.out,HU.out,WG.out,λh=>⟨(HP.out h).1,(HP.out h).2.2⟩,by
   cases b with
   | true=>exact (HP.out rfl).2.1
   | false=>exact kU.out,by show X<=r;omega,zi⟩)
 have tk:Hid (VwIn k ⟨#[]⟩ w5):=jq (by
  subst hk;refine⟨.inl rfl,by decide,?_,HM.out.keep aG zi,?_⟩
  ·rw[<-aK];simp[World.setCell,Array.getElem?_modify,UH.out]
  ·rw[<-hX];exact HX.out.keep aP (by rw[hX];exact cg.out))
 have Xr:Hid (∀ (j:Nat) (f:FuncId),sH[j]?=some f->(∀ args w,(callFunc f args).run prog w = .ok (.enter f args) w)/\∀ (wd:ByteArray) (w:World),VwIn k wd w->Calls prog f #[.pointer (some ⟨V,0,none⟩)] w (mX k w (On j nm.data.toList ap.data.toList))):=jq (λj f hj=>by
  have:=blZ HK.out (by rw[hk]) (by rw[hk];exact bhY HZ.out) (by rw[hk];exact Ie.out) hj
  rw[hk] at this |-;exact this)
 have sk:k.V=V:=by rw[hk]
 have iE:=jq sk;clear aK aG v5 v6 fV hk sk;obtain⟨T,hT⟩:=afZ w5.heap.size;obtain⟨w6,bC⟩:=afZ (w5.alloc (.cells #[.func (.func 190) #[.pointer (some ⟨V,0,none⟩)] #[],.func (.func 191) #[.pointer (some ⟨V,0,none⟩)] #[],.func (.func 192) #[.pointer (some ⟨V,0,none⟩)] #[],.func (.func 193) #[.pointer (some ⟨V,0,none⟩)] #[],.func (.func 194) #[.pointer (some ⟨V,0,none⟩)] #[],.func (.func 195) #[.pointer (some ⟨V,0,none⟩)] #[],.func (.func 196) #[.pointer (some ⟨V,0,none⟩)] #[]] 258));have aT:Below w5.heap.size w5 w6:=by rw[<-bC];exact blAl
 have hTl:T<w6.heap.size:=by rw[<-bC];simp[hT]
 have Xn:Hid (ic w6 T (sH.map λf=>.func (.func f) #[.pointer (some ⟨V,0,none⟩)] #[])):=jq (eb (sH.map λf=>.func (.func f) #[.pointer (some ⟨V,0,none⟩)] #[]) _ hT bC);have cn:=aeX cg aT;have AM:=jq ((aT.block (X+2) (by omega)).trans Ik.out);have yc:=jq (tk.out.keep HK.out aT tk.out.lt);have hVT:V<T:=by have:=tk.out.lt;rw[iE.out] at this;omega
 have eX:=aT.size;clear aT;go_wp2_with fail
 try rw[bC]
 clear bC;go_loopw [67] (λix wr=>∃ j:Nat,j<=7/\ix = .int .i64 j/\w6.heap.size<=wr.heap.size/\(2<=j->nm.data.toList≠ap.data.toList)/\Hid (Below V w6 wr)/\Hid (ic wr T (sH.map λf=>.func (.func f) #[.pointer (some ⟨V,0,none⟩)] #[]))/\∃ wd,Hid (VwIn k wd wr)) (λix _=>7 - (intOf ix).toNat)
 case atStart=>exact⟨0,by omega,rfl,bQ _,by omega,jq (vQ _ _),Xn,_,yc⟩
 case round=>
  obtain⟨j,hj,rfl,zy,hne,bp,NW,wd,ye⟩:=hrel;obtain⟨ws,rfl⟩:=afJ wr;have My:=aeX cn bp.out;have NP:=jq ((bp.out.block (X+2) (by omega)).trans AM.out);by_cases ab:j<7
  ·obtain⟨f,hf⟩:∃ f,sH[j]?=some f:=⟨_,aQ (by simpa [sH] using ab)⟩;obtain⟨eg,bP⟩:=Xr.out j f hf;have HC:=jq (bP wd ws ye.out);have cT:=NW.out j (.func (.func f) #[.pointer (some ⟨V,0,none⟩)] #[]) (by rw[List.getElem?_map,hf];rfl);have jg:=kNN j;have qR:(j:Int)<7:=by omega
   clear hf bP;go_wp2_with fail;refine HC.out.mono ?_;rintro e w7 ⟨kd,A',n',m',cs,d,rfl,hc,hg,wd',hi⟩;rw[iE.out] at hg;have hVs:V<=ws.heap.size:=by omega
   have hb:=aUX hg hVs;have mG:=hg.size;have DB:=jq hi;have cZ:=jq (bp.out.trans hb);have Iv:Hid (ic w7 T (sH.map λf=>.func (.func f) #[.pointer (some ⟨V,0,none⟩)] #[])):=jq (λq v hq=>(iQ (a:=⟨T,q,none⟩) (hg.block T (by omega) (λe=>by have:=Option.some.inj e;omega))).trans (NW.out q v hq));have AN:=jq ((hb.block (X+2) (by omega)).trans NP.out);have UT:=aeX My hb;obtain⟨bw,vS,vV⟩:=hc;clear hb hg hi cT eg;obtain⟨G,hG⟩:=afZ w7.heap.size;obtain⟨w8,gM⟩:=afZ (w7.alloc (.cells #[.int .i64 kd,.slice A' n' m',.string cs] 104));have fU:Below w7.heap.size w7 w8:=by rw[<-gM];exact blAl
   have G9:=jq (eb [.int .i64 kd,.slice A' n' m',.string cs] 104 hG gM);have DC:=jq (DB.out.keep HK.out fU DB.out.lt);have fd:=aeX cZ fU;have Xo:=jq (Iv.out.keep fU (by omega));have WT:=jq ((fU.block (X+2) (by omega)).trans AN.out);have Af:=aeX UT fU;have p6:=fU.size;clear fU;go_upto_region 15 with fail
   have mT:Hid (d=true->(kd=1↔nm.data.toList=ap.data.toList)):=jq (λhd=>by
    by_cases h1:j=1
    ·obtain⟨k1,k2⟩:=bw h1;exact⟨λ_=>k2.1 hd,λ_=>k1⟩
    ·refine⟨λh=>absurd h (vV h1 hd),λh=>?_⟩;by_cases h0:j=0
     ·have:=vS h0 h
      rw[hd] at this;cases this
     ·exact absurd h (hne (by omega)))
   have V5:Hid (d=false->2<=j+1->nm.data.toList≠ap.data.toList):=jq (λhd pN h=>by
    by_cases h1:j=1
    ·have:=(bw h1).2.2 h
     rw[hd] at this;cases this
    ·exact hne (by omega) h)
   clear bw vS vV gM
   cases d with
   | true=>
    have vu:=WT;have xS:=Af;have kR:=ek [_,_,_] vu.out;have kR0:=kR 0 _ rfl;have kR1:=kR 1 _ rfl;have kR2:=kR 2 _ rfl;have fR:∀ q,w8.frozen? ⟨X+2,q,none⟩=false:=λq=>by simp[World.frozen?,vu.out]
    have g0:=G9.out 0 _ rfl;have g1:=G9.out 1 _ rfl;have g2:=G9.out 2 _ rfl;go_wp2_with fail;obtain⟨wz,gi⟩:=afZ (((w8.setCell ⟨X+1+1,0,none⟩ (.int .i64 kd)).setCell ⟨X+1+1,1,none⟩ (.slice A' n' m')).setCell ⟨X+1+1,2,none⟩ (.string cs));rw[gi];have pL:wz.heap[X+1+1]?=some (.cells #[.int .i64 kd,.slice A' n' m',.string cs] 104 (0,0)):=by rw[<-gi];simp[World.setCell,Array.getElem?_modify,vu.out]
    have eS:Below X w8 wz:=by
     rw[<-gi];exact (((vQ X w8).blSe _).blSe _).blSe _
    have nC:=run_loadVar_row (P:=prog) _ _ 104 104 _ (0,0) _ pL underlying104 rfl (by kernel_rfl);refine bodyPost_ret (FY rfl _ _ _ _ _ _ rfl nC rfl) rfl ⟨kd,A',n',m',cs,rfl,mT.out (by first | rfl | trivial),by rw[hX];exact xS.out.trans eS⟩
   | false=>
    go_wp2_with fail;go_roundw
    case rel=>exact⟨j+1,by omega,by go_num,by omega,V5.out rfl,fd,Xo,_,DC⟩
    ·simp[intOf]<;>omega
  ·obtain rfl:j=7:=by omega
   have jZ:=jq (hne (by omega));clear ab hne;go_wp2_with fail;have bP:=aTZ k HK.out wd ws ye.out;rw[iE.out] at bP;refine bP.mono ?_;rintro e w7 ⟨A',n',m',rfl,hb⟩;have vu:=jq ((hb.block (X+2) (by omega)).trans NP.out);have xS:=aeX My hb;clear hb bP;have kR:=ek [_,_,_] vu.out;have kR0:=kR 0 _ rfl;have kR1:=kR 1 _ rfl;have kR2:=kR 2 _ rfl;have fR:∀ q,w7.frozen? ⟨X+2,q,none⟩=false:=λq=>by simp[World.frozen?,vu.out]
   go_wp2_with fail;obtain⟨wz,gi⟩:=afZ (((w7.setCell ⟨X+1+1,0,none⟩ (.int .i64 6)).setCell ⟨X+1+1,1,none⟩ (.slice A' n' m')).setCell ⟨X+1+1,2,none⟩ (.string ⟨#[]⟩));rw[gi];have pL:wz.heap[X+1+1]?=some (.cells #[.int .i64 6,.slice A' n' m',.string ⟨#[]⟩] 104 (0,0)):=by rw[<-gi];simp[World.setCell,Array.getElem?_modify,vu.out]
   have eS:Below X w7 wz:=by
    rw[<-gi];exact (((vQ X w7).blSe _).blSe _).blSe _
   have nC:=run_loadVar_row (P:=prog) _ _ 104 104 _ (0,0) _ pL underlying104 rfl (by kernel_rfl);refine bodyPost_ret (FY rfl _ _ _ _ _ _ rfl nC rfl) rfl ⟨6,A',n',m',⟨#[]⟩,rfl,⟨λh=>absurd h (by decide),λh=>absurd h jZ.out⟩,by rw[hX];exact xS.out.trans eS⟩
end
section
open Go.RowKit Go.Shelf
attribute [local go_sem] Oper.semAt_some
attribute [local go_sem] PV.cells
theorem Zz:∀ args w,(callFunc 112 args).run prog w = .ok (.enter 112 args) w:=enters_of func112 (by kernel_rfl) rfl
theorem ZA:∀ args w,(callFunc 114 args).run prog w = .ok (.enter 114 args) w:=enters_of func114 (by kernel_rfl) rfl
theorem ZH:∀ args w,(callFunc 183 args).run prog w = .ok (.enter 183 args) w:=enters_of func183 (by kernel_rfl) rfl
noncomputable def zvn(x:PV):ZVN:=@dite _ (Np.al x.str.data.toList=true) (Classical.propDecidable _) (λh=>⟨⟨x.str,x.A,x.n,x.c⟩,h⟩) (λ_=>default)
theorem L2{x:PV}(h:Np.al x.str.data.toList=true):(zvn x).1=⟨x.str,x.A,x.n,x.c⟩:=by
 have e:zvn x=⟨⟨x.str,x.A,x.n,x.c⟩,h⟩:=@dif_pos _ (Classical.propDecidable _) h _ _ _;rw[e]
theorem L1{x:PV}(h:Np.al x.str.data.toList=true):ke (zvn x) = [.string x.str,.slice x.A x.n x.c]:=by unfold ke;rw[L2 h]
theorem Tryz.infoZoneH:(prog.info? 44).map (λi=>(i.zero,i.size,i.bytes))=some (some (.agg #[.string ⟨#[]⟩,.slice none 0 0]),2,40):=by kernel_rfl
theorem Yr{w:World}{base:Nat}{v:Value}{ps:List ZVN}(h:lP base w v ps)(ty:TypeId)(q:Nat)(z:ZVN)(hc:ic w q (ke z))(hk:ps.length<=10000)(hb:base<=w.heap.size) :
 ∃ v' w',(Builtin.append_ #[174,174] ty #[v,.slice (some ⟨q,0,none⟩) 1 1]).run prog w = .ok v' w'/\lP base w' v' (ps ++ [z])/\w.grownBy w' v.ownBlock/\(v'.ownBlock=v.ownBlock\/v'.ownBlock=some w.heap.size):=by
 obtain⟨i0,hi,dP,bF,aO⟩:=info_parts Tryz.infoZoneH;obtain⟨v',w',hr,r1,r2,_,r4⟩:=run_append_own_at (P:=prog) w base 174 ty 44 i0 (.agg #[.string ⟨#[]⟩,.slice none 0 0]) 2 40 underlying174 hi dP bF aO rfl (by decide) v ps.length (ps.map ke).flatten h ⟨q,0,none⟩ 1 1 (ke z) rfl (λj u hj=>by rw[show (⟨q,0,none⟩:Addr).add j=⟨q,j,none⟩ by cases j<;>simp[Addr.add]];exact hc j u hj) (λu hu=>by simp only[ke,List.mem_cons,Qh,or_false] at hu;rcases hu with rfl | rfl<;>rfl) (by simp[maxLen];omega) (by omega) hb;refine⟨v',w',hr,?_,r2,r4⟩;have e:(ps ++ [z]).length=ps.length+1:=by simp
 unfold lP;rw[e,List.map_append,List.flatten_append];simpa using r1
theorem lP.form{base:Nat}{w:World}{v:Value}{ps:List ZVN}(h:lP base w v ps):∃ A c,v = .slice A ps.length c:=oN h
theorem lP.nil(base:Nat)(w:World):lP base w (.slice none 0 0) []:=⟨by simp,.inl ⟨rfl,rfl⟩⟩
theorem lP.keep{base:Nat}{w w':World}{v:Value}{ps:List ZVN}(h:lP base w v ps)(hb:Below w.heap.size w w'):lP base w' v ps:=dS h (λg hg=>hb.block g (h.lt g hg).2)
def Gl(w6:World)(Bl:Nat)(pre:List (Int×PV×Np.Placed))(S:Nat->Prop)(W:World):Prop:=
 ∃ v,(∀ k,S k↔k=Bl\/v.ownBlock=some k)/\Boxed W Bl 174 v/\lP (Bl+1) W v (pre.map λx=>zvn x.2.1)/\Below Bl w6 W
theorem Oy(w6:World)(Bl:Nat)(B:Nat)(hB:Bl<=B)(hs:Bl<=w6.heap.size):fO B (Gl w6 Bl):=by
 rintro s S W W' ⟨v,hS,h1,h2,h3⟩ ax;exact⟨v,hS,iK h1 ax ((hS _).2 (.inl rfl)),dS h2 (λg hg=>ax.keep g (h2.lt g hg).2 (.inr ((hS g).2 (.inr hg)))),qF h3 ax hB hs⟩
theorem OB{fn:Func}{Rr:Ending->World->Prop}{tmps:Array Value}{W:World}{D G:Nat}(nJ:fn.results = #[.cell 6 104,.tmp 7])(hK:W.heap[D]?=some (.deferred (some [])))(PB:G≠D){v0 v1 v2:Value}(hb:W.heap[G]?=some (.cells #[v0,v1,v2] 104 (0,0)))(kd:Int)(A:Option Addr)(n m:Nat)(s:ByteArray)(h6:tmps.getD 6 undef = .pointer (some ⟨G,0,none⟩))(h7:tmps.getD 7 undef = .int .i64 0)
 (hR:∀ w',Below G W w'->Rr (.returned (.tuple #[.agg #[.int .i64 kd,.slice A n m,.string s],.int .i64 0])) (w'.putObj D (.deferred none))) :
 bodyPostM Fence.wide 0 prog fn Rr .ret { tmps:=tmps,defers:=[{ target:=.collected D,args:=#[] }] } (((W.setCell ⟨G,0,none⟩ (.int .i64 kd)).setCell ⟨G,1,none⟩ (.slice A n m)).setCell ⟨G,2,none⟩ (.string s)):=by
 obtain⟨wz,gi⟩:=afZ (((W.setCell ⟨G,0,none⟩ (.int .i64 kd)).setCell ⟨G,1,none⟩ (.slice A n m)).setCell ⟨G,2,none⟩ (.string s));rw[gi];have pL:wz.heap[G]?=some (.cells #[.int .i64 kd,.slice A n m,.string s] 104 (0,0)):=by rw[<-gi];simp[World.setCell,Array.getElem?_modify,hb]
 have hDz:wz.heap[D]?=some (.deferred (some [])):=by rw[<-gi];simp[World.setCell,Array.getElem?_modify,PB,hK]
 have eS:Below G W wz:=by
  rw[<-gi];exact (((vQ G W).blSe _).blSe _).blSe _
 have hhp:(wz.putObj D (.deferred none)).heap[G]?=some (.cells #[.int .i64 kd,.slice A n m,.string s] 104 (0,0)):=(zQ PB).trans pL;have nC:=run_loadVar_row (P:=prog) _ _ 104 104 _ (0,0) _ hhp underlying104 rfl (by kernel_rfl);exact mv hDz (FY nJ _ _ _ _ _ _ h6 nC h7) (hR wz eS)
theorem Zs{nm ap:List UInt8}(hv:Np.al ap=true)(hu:Np.aX nm ap=true)(hd:(Np.bO nm).length<=(Np.bO ap).length):nm=ap:=by
 have hne:ap≠[]:=by rintro rfl;exact absurd hv (by decide)
 rw[<-Np.ut hne,Np.CQ] at hu;obtain⟨p,hp⟩:=hu;have h1:p.length=0:=by have:=Qd List.length hp;rw[List.length_append] at this;omega
 rw[rQ h1] at hp;exact Np.SV hp
def Np.D5(x:Np.WorldP)(kk:Int)(nm:List UInt8):Prop:=∃ p∈x.zones,p.host=kk/\p.zone.apex=nm
theorem Yv(e:List Value)(x:Np.WorldP)(hv:Np.VWorld x)(hl:x.zones.length<=500)(eX:∀ p∈x.zones,p.zone.sets.length<=20000)(tW:∀ p∈x.zones,∀ s∈p.zone.sets,s.set.data.length<=1000/\s.sigs.length<=1000)(addr:Int)(nE:¬ Np.lv x.hosts addr<0)(z:ByteArray)(hz:z.size<=140737488355328)(dg:Np.al z.data.toList=true)(w:World)(hR:gq w w.heap.size)(hx:tB w w.heap.size e x) :
 Calls prog 52 #[.agg e.toArray,.int .i64 addr,.agg #[.string z,.int .i64 4]] w
  λe w'=>∃ (kd:Int) (A':Option Addr) (n' m':Nat) (cs:ByteArray),e = .returned (.tuple #[.agg #[.int .i64 kd,.slice A' n' m',.string cs],.int .i64 0])/\(kd=1↔Np.D5 x (Np.lv x.hosts addr) z.data.toList)/\Below w.heap.size w w':=by
 obtain⟨aN,zv,s,dv,cU,rfl,bU,fH,h3,h4,h5,h6⟩:=hx;have hval:=Uh aN x.hosts zv x.zones s fH x.anchor.type x.anchor.life dv x.anchor.data cU x.hints hl eX;rw[bU] at hval;obtain⟨ty,cw⟩:=afZ x.anchor.type;obtain⟨life,lp⟩:=afZ x.anchor.life;have HV:=jq hv;have AV:Hid (∀ (w:World),gq w w.heap.size->SlR gp 3 w w.heap.size aN x.hosts->SlR jb 3 w w.heap.size zv x.zones->SlR ci 3 w w.heap.size dv x.anchor.data->SlR ei 1 w w.heap.size cU x.hints->Calls prog 110 #[.agg #[aN,zv,.string s,.int .i64 ty,.int .i64 life,dv,cU]] w λe w'=>e = .returned (.bool true)/\Below w.heap.size w w'):=jq (λw a b c d f=>by
  have:=hval w a b c d f
  rw[cw,lp] at this;refine this.mono λe w' h=>⟨?_,h.2⟩;rw[h.1];congr 2;refine Np.bV ?_;have e1:(⟨x.anchor.name,ty,life,x.anchor.data⟩:Np.DSet)=x.anchor:=by rw[<-cw,<-lp]
  rw[e1];exact hv)
 have H3:=jq h3;have H4:=jq h4;have H5:=jq h5;have H6:=jq h6;have dZ:=jq (And.intro hl (And.intro eX tW));have ef:=jq hR;have gD:=jq dg;obtain⟨A1,c1,rfl,_,_⟩:=ak h3;obtain⟨A2,c2,rfl,_,_⟩:=ak h4;obtain⟨A3,c3,rfl,_,_⟩:=ak h5;obtain⟨A4,c4,rfl,_,_⟩:=ak h6;rw[cw,lp];obtain⟨kk,ll⟩:=afZ (Np.lv x.hosts addr);have uX:=jq ll;rw[ll] at nE |-;clear h3 h4 h5 h6 bU fH hval cw lp hR dg hl eX tW hv ll;obtain⟨n1,bE⟩:=afZ x.hosts.length;obtain⟨n2,bS⟩:=afZ x.zones.length;obtain⟨n3,cR⟩:=afZ x.anchor.data.length;obtain⟨n4,cX⟩:=afZ x.hints.length;rw[bE] at H3 AV;rw[bS] at H4 AV;rw[cR] at H5 AV;rw[cX] at H6 AV;rw[bE,bS,cR,cX];have lK:=jq bS;clear bE bS cR cX;obtain⟨X,hX⟩:=afZ w.heap.size;obtain⟨W1,aB⟩:=afZ ((((w.alloc (.cells #[.slice A1 n1 c1,.slice A2 n2 c2,.string s,.int .i64 ty,.int .i64 life,.slice A3 n3 c3,.slice A4 n4 c4] 68)).alloc (.cells #[.int .i64 addr] 3)).alloc (.cells #[.string z,.int .i64 4] 31)).alloc (.cells #[.int .i64 0,.slice none 0 0,.string ⟨#[]⟩] 104));have aM:Below w.heap.size w W1:=by rw[<-aB];exact (((blAl).alloc (by simp<;>omega) _).alloc (by simp<;>omega) _).alloc (by simp<;>omega) _
 have jS:W1.heap.size=X+4:=by rw[<-aB,<-hX];simp
 have GP:Hid (ic W1 X [.slice A1 n1 c1,.slice A2 n2 c2,.string s,.int .i64 ty,.int .i64 life,.slice A3 n3 c3,.slice A4 n4 c4]):=jq (by
  rw[<-aB,<-hX];exact (((eb [.slice A1 n1 c1,.slice A2 n2 c2,.string s,.int .i64 ty,.int .i64 life,.slice A3 n3 c3,.slice A4 n4 c4] 68 rfl rfl).keep (blAl) (by simp)).keep (blAl) (by simp;omega)).keep (blAl) (by simp;omega))
 have Vg:Hid (W1.cell? ⟨X+1,0,none⟩=some (.int .i64 addr)):=jq (by rw[<-aB,<-hX];simp[go_sem]);have ME:Hid (ic W1 (X+1+1) [.string z,.int .i64 4]):=jq (by
  rw[<-aB,<-hX];intro i v hi
  match i,hi with
  | 0,hi=>cases hi;simp[go_sem]
  | 1,hi=>cases hi;simp[go_sem]
  | i+2,hi=>simp at hi)
 have tr:Hid (W1.heap[X+3]?=some (.cells #[.int .i64 0,.slice none 0 0,.string ⟨#[]⟩] 104 (0,0))):=jq (by
  rw[<-aB,<-hX]
  have:=heap_alloc_new (((w.alloc (.cells #[.slice A1 n1 c1,.slice A2 n2 c2,.string s,.int .i64 ty,.int .i64 life,.slice A3 n3 c3,.slice A4 n4 c4] 68)).alloc (.cells #[.int .i64 addr] 3)).alloc (.cells #[.string z,.int .i64 4] 31)) (.cells #[.int .i64 0,.slice none 0 0,.string ⟨#[]⟩] 104)
  simpa using this)
 rw[hX] at aM H3 H4 H5 H6 ef |-;have aS:=jq aM;clear aM;obtain⟨k0,k1,k2,k3,k4,k5,k6⟩:=cGet7 GP.out;refine (callsIn_wide (n:=0)).1 ?_;refine callsIn_of_wp_marks func52 rfl trivial ?_ rfl;simp only[ntmps52,List.size_toArray,List.length_cons,List.length_nil,Nat.reduceAdd,Nat.reduceSub,Array.replicate_succ,Array.replicate_zero,List.push_toArray,List.append_toArray,List.nil_append,List.cons_append];gi_wp2_with fail;refine⟨trivial,rfl,?_⟩;refine (callsIn_wide.2 (AV.out W1 ((ef.out.keep aS.out).more (by omega)) ((H3.out.keep gy aS.out).more mN (by omega)) ((H4.out.keep iT aS.out).more jr (by omega)) ((H5.out.keep cJ aS.out).more di (by omega)) ((H6.out.keep kE aS.out).more qa (by omega)))).mono ?_;rintro e w2 ⟨rfl,aa⟩;have aO:=aa.size;have ah:=aeX aS aa;have GQ:=jq (GP.out.keep aa (by omega));have Ds:=jq (ME.out.keep aa (by omega));have Vh:=jq (aeK aa Vg.out);have NI:=jq ((aa.block (X+3) (by omega)).trans tr.out);clear aa aB hX;clear k0 k1 k2 k3 k4 k5 k6;obtain⟨k0,k1,k2,k3,k4,k5,k6⟩:=cGet7 GQ.out;have q0:=Ds.out 0 _ rfl;have q1:=Ds.out 1 _ rfl;gi_wp2_with fail;refine⟨trivial,rfl,?_⟩;refine (callsIn_wide.2 (bnX z hz 4 w2)).mono ?_;rw[gD.out];rintro e w3 ⟨rfl,aa⟩;have dR:=aa.size;have aw:=aeX ah aa;have GR:=jq (GQ.out.keep aa (by omega));have MF:=jq (Ds.out.keep aa (by omega));have Vi:=jq (aeK aa Vh.out);have NJ:=jq ((aa.block (X+3) (by omega)).trans NI.out);clear aa q0 q1;clear k0 k1 k2 k3 k4 k5 k6;obtain⟨k0,k1,k2,k3,k4,k5,k6⟩:=cGet7 GR.out;gi_wp2_with fail;refine⟨trivial,rfl,?_⟩;refine (callsIn_wide.2 (R2 gy 112 Zz #[.pointer (some ⟨X+1,0,none⟩)] (λx:Np.Host=>decide (x.addr=addr)) _ x.hosts w3 w3.heap.size (bQ _) ((H3.out.keep gy aw.out).more mN (by omega)) (λW x e0 e1 e2 _ hW qM hR=>by
  obtain⟨t,_,_,he⟩:=hR;simp only[List.cons.injEq,and_true] at he;obtain⟨rfl,rfl,rfl⟩:=he;exact Yt t _ _ (X+1) addr W (by omega) (aeK hW Vi.out)))).mono ?_
 rintro e w4 ⟨rfl,aa⟩;have fz:=aa.size;have bi:=aeX aw aa;have GS:=jq (GR.out.keep aa (by omega));have MG:=jq (MF.out.keep aa (by omega));have NK:=jq ((aa.block (X+3) (by omega)).trans NJ.out);clear aa;rw[show jF (λx:Np.Host=>decide (x.addr=addr)) x.hosts=kk from uX.out];clear k0 k1 k2 k3 k4 k5 k6;obtain⟨k0,k1,k2,k3,k4,k5,k6⟩:=cGet7 GS.out;have hd:decide (kk<0)=false:=afY;have ry:=jq nE;clear nE;obtain⟨Bh,ng⟩:=afZ w4.heap.size;obtain⟨w5,aK⟩:=afZ ((w4.alloc (.cells #[.int .i64 kk] 3)).alloc (.cells #[.slice none 0 0] 174));have aG:Below w4.heap.size w4 w5:=by rw[<-aK];exact (blAl).alloc (by simp) _
 have kh:w5.cell? ⟨Bh,0,none⟩=some (.int .i64 kk):=by rw[<-aK,<-ng];simp[go_sem]
 have fe:Hid (Boxed w5 (Bh+1) 174 (.slice none 0 0)):=jq (by rw[<-aK,<-ng];have:=Boxed.new (w4.alloc (.cells #[.int .i64 kk] 3)) 174 (.slice none 0 0);simpa using this);have RY:w5.heap.size=Bh+2:=by rw[<-aK,<-ng];simp
 have lB:=aG.size;have cg:=aeX bi aG;have MJ:=jq (GS.out.keep aG (by omega));have Vn:=jq (MG.out.keep aG (by omega));have WY:=jq ((aG.block (X+3) (by omega)).trans NK.out);clear k0 k1 k2 k3 k4 k5 k6;obtain⟨k0,k1,k2,k3,k4,k5,k6⟩:=cGet7 MJ.out;clear aG GP GQ GR GS ME Ds MF MG tr NI NJ NK;gi_wp2_with fail;refine⟨trivial,rfl,?_⟩;refine (callsIn_wide.2 (bpX _ _ _ _ _ _ _ 114 #[.pointer (some ⟨Bh,0,none⟩),.pointer (some ⟨X+1+1,0,none⟩)] w5)).mono ?_;rintro e w6 ⟨rfl,bC⟩;have bTK:w6.heap.size=Bh+4:=by rw[bC];simp;omega
 have aT:Below w5.heap.size w5 w6:=by rw[bC];exact (blAl).alloc (by simp) _
 have kX:w6.cell? ⟨Bh+2,1,none⟩=some (.slice A2 n2 c2):=by rw[bC,<-RY];simp[go_sem]
 have kO:w6.cell? ⟨Bh+2+1,0,none⟩=some (.func (.func 114) #[] #[.pointer (some ⟨Bh,0,none⟩),.pointer (some ⟨X+1+1,0,none⟩)]):=by rw[bC,show Bh+2+1=w5.heap.size+1 by omega];simp[go_sem]
 have eX:=aT.size;have cn:=aeX cg aT;have bwK:=jq (MJ.out.keep aT (by omega));have MH:=jq (Vn.out.keep aT (by omega));have WZ:=jq ((aT.block (X+3) (by omega)).trans WY.out);rw[RY];obtain⟨L,gT,nk,lh⟩:=a0Z (H4.out.keep iT cn.out);have AB:Hid (∀ y∈L,PVOf w6 X y.2.1 y.2.2/\y.2.2∈x.zones/\Np.al y.2.1.str.data.toList=true):=jq (λy hy=>by
  obtain⟨i,hi⟩:=List.mem_iff_getElem?.1 hy;have h1:=(lh i y hi).2.1;have h2:y.2.2∈x.zones:=by rw[<-gT];exact List.mem_map.2 ⟨y,hy,rfl⟩
  exact⟨h1,h2,by rw[h1.apex];exact (Np.uG (HV.out.each _ h2).2).1⟩)
 have rx:=jq (MH.out 0 _ rfl);have Ho:=jq (aeK aT kh);have uU:=jq (bpY L (λy=>decide (y.2.1.host=kk)&&Np.aX z.data.toList y.2.1.str.data.toList) 114 #[.pointer (some ⟨Bh,0,none⟩),.pointer (some ⟨X+1+1,0,none⟩)] (Bh+2) (Bh+2+1) n2 c2 (λk=>k<w6.heap.size/\k≠Bh+1) A2 w6 ⟨by omega,by omega⟩ ⟨by omega,by omega⟩ kX kO nk (by have:=dZ.out.1;have:=lK.out;omega)
  (λi x hx=>by
    obtain⟨h0,_,b,o,h1,h2,h3⟩:=lh i x hx;exact⟨h0,b,o,h1,⟨by omega,by omega⟩,h3⟩) ZA
  (λx hx W hW=>by
    have h1:=(hW.cell (p:=⟨X+1+1,0,none⟩) ⟨by dsimp only;omega,by dsimp only;omega⟩).trans rx.out;have h2:=(hW.cell (p:=⟨Bh,0,none⟩) ⟨by dsimp only;omega,by dsimp only;omega⟩).trans Ho.out
    have:=hW.1
    obtain⟨g1,_,g3⟩:=AB.out x hx;exact Yu x.2.1.host x.2.1.str z x.2.1.A x.2.1.n x.2.1.c Bh (X+1+1) kk g1.size hz gD.out g3 W (by omega) (by omega) h2 h1))
 have Ae:=jq (ahQ fe.out aT);have iX:=jq gT;clear aT bC aK kX kO gT lh kh k0 k1 k2 k3 k4 k5 k6;have IF:=jq eX;gi_wp2_with fail;refine Dd (Dr:=λk=>k<w6.heap.size/\k≠Bh+1) (w0:=w6) (first:=#[]) (captured:=#[.pointer (some ⟨Bh+2,0,none⟩),.pointer (some ⟨Bh+2+1,0,none⟩)]) (gf:=183) rfl ZH (mk:=λy=>#[y,.pointer (some ⟨Bh+2,0,none⟩),.pointer (some ⟨Bh+2+1,0,none⟩)]) (λ_=>rfl)
  uU.out (dI.refl λk e=>e.1) (λ_=>rfl) (Gl w6 (Bh+1)) (λ_ _ _ _=>False)
  (Oy _ _ _ (by omega) (by omega)) (λc s S W W' h _=>h)
  (λk=>k=Bh+1) (λk h1 h2=>h2.2 h1) (by intro k h;omega)
  ⟨_,λk=>by simp[Value.ownBlock],Ae.out,lP.nil _ _,vQ _ _⟩ ?round ?done ?stop
 case stop=>
  rintro D c pre S W hD el bR g8 h hK;exact h.elim
 case round=>
  rintro l0 pre ⟨xi,⟨xh,xs,xA,xn,xc⟩,cc⟩ S W bM hI ed;have dY:pre.length<=500:=by
   have h1:=bM.length_le;have h2:=List.length_filter_le (λy:Int×PV×Np.Placed=>decide (y.2.1.host=kk)&&Np.aX z.data.toList y.2.1.str.data.toList) L;have h3:=dZ.out.1;have h4:=lK.out;rw[List.length_append,List.length_singleton] at h1;omega
  have RJ:Np.al xs.data.toList=true:=by
   have h1:=bM.subset (a:=(xi,⟨xh,xs,xA,xn,xc⟩,cc)) (by simp);exact (AB.out _ (List.mem_filter.1 h1).1).2.2
  have ld:Gl w6 (Bh+1) pre S (W.alloc (.cells #[.int .i64 xh,.string xs,.slice xA xn xc] 72)):=by
   obtain⟨v,hS,cF,hown,hB⟩:=hI;exact⟨v,hS,cF.alloc _,World.ownsRow.alloc hown _,hB.alloc (by have:=hB.size;omega) _⟩
  have qM:w6.heap.size<=W.heap.size:=by obtain⟨v,_,_,_,hB⟩:=hI;exact hB.size
  have DO:=jq bM;have gl:=jq dY;have XO:=jq RJ;clear hI bM dY RJ;gi_wp2;refine⟨λk=>S k\/k=W.heap.size,(RdStep.refl S W).alloc _,λk e=>e.imp id (λh=>by omega),λk e=>by rcases e with e | e;have:=ed k e;simp;omega;simp;omega,?_⟩;intro l W₂ ax;obtain⟨v,hS,cF,hown,hB⟩:=Oy w6 (Bh+1) w6.heap.size (by omega) (by omega) pre S _ W₂ ld (ax.weaken (bQ _) (λk e=>.inl e));have mb:=ax.size;simp only[World.size_alloc] at mb;have eT:W₂.heap[W.heap.size]?=some (.cells #[.int .i64 xh,.string xs,.slice xA xn xc] 72):=(ax.keep W.heap.size (by simp) (.inr (.inr rfl))).trans (heap_alloc_new _ _);have cc1:W₂.cell? ⟨W.heap.size,1,none⟩=some (.string xs):=by simp[World.cell?,eT]
  have cc2:W₂.cell? ⟨W.heap.size,2,none⟩=some (.slice xA xn xc):=by simp[World.cell?,eT]
  have iM:∀ k,S k->k<W₂.heap.size:=λk e=>by have:=ed k e;omega
  have me:∀ g,v.ownBlock=some g->Bh+1+1<=g/\g<W₂.heap.size:=λg hg=>hown.lt g hg;obtain⟨vA,vc,rfl⟩:=hown.form;obtain⟨m,hm⟩:=afZ ((pre.map λy:Int×PV×Np.Placed=>zvn y.2.1).length);have lq:m<=500:=by rw[<-hm,List.length_map];exact gl.out
  obtain⟨w7,gL⟩:=afZ (W₂.alloc (.cells #[.string xs,.slice xA xn xc] 44));have dp:Below W₂.heap.size W₂ w7:=by rw[<-gL];exact blAl
  have mG:w7.heap.size=W₂.heap.size+1:=by rw[<-gL];simp
  have BV:ic w7 W₂.heap.size (ke (zvn ⟨xh,xs,xA,xn,xc⟩)):=by
   rw[L1 XO.out];exact eb [.string xs,.slice xA xn xc] 44 rfl gL
  obtain⟨v8,w8,iO,eE,cr,il⟩:=Yr (hown.keep dp) 174 W₂.heap.size (zvn ⟨xh,xs,xA,xn,xc⟩) BV (by omega) (by omega);rw[hm] at cF me hS iO cr il;obtain⟨A8,c8,RD⟩:=eE.form;have QG:((pre.map λy:Int×PV×Np.Placed=>zvn y.2.1) ++ [zvn ⟨xh,xs,xA,xn,xc⟩]).length=m+1:=by simp[<-hm]
  rw[QG] at RD;subst RD;have bc:=cF.cell;have bf:=cF.frozen;have p6:=cr.size;have rV:=((cr.block (Bh+1) (by omega) (λe=>by have:=(me _ e.symm).1;omega)).trans (dp.block (Bh+1) (by omega))).trans cF;have Af:Hid (Boxed w8 (Bh+1) 174 (.slice vA m vc)):=jq rV;have bc8:w8.cell? ⟨Bh+1,0,none⟩=some (.slice vA m vc):=Boxed.cell rV;have bf8:w8.frozen? ⟨Bh+1,0,none⟩=false:=Boxed.frozen rV;have kJ:=jq iO;have H8:=jq (And.intro eE (And.intro cr il));have DY:=jq me;have iZ:=jq hS;have HB:=jq hB;have pn:=jq iM;have cZ:=jq dp;have AN:Hid (RdStep (λk=>S k\/k=W.heap.size) W₂ w7):=jq (RdStep.of_below dp);clear hm cF hown me hS hB ld iM dp ax eT ed iO eE cr il rV BV QG;gi_wp2_with (first
   | (gi_at_builtin;refine LV rfl (by intro c h;cases h) (by rintro⟨_,_,h⟩;exact h) ?_;refine LY rfl _ _ 174 rfl _ _ _ w8 rfl rfl kJ.out ?_;refine LX ?_;clear gL))
  have Cz:∀ k,(Value.slice A8 (m+1) c8).ownBlock=some k->(Value.slice vA m vc).ownBlock=some k\/w7.heap.size=k:=λk e=>by
   rcases H8.out.2.2 with h | h
   ·exact .inl (h ▸ e)
   ·rw[h] at e;exact .inr (Option.some.inj e)
  refine⟨λk=>k=Bh+1\/(Value.slice A8 (m+1) c8).ownBlock=some k,(AN.out.grown H8.out.2.1 (λk e=>.inl (.inl ((iZ.out k).2 (.inr e))))).setCell (.inl (.inl ((iZ.out _).2 (.inl rfl)))) _,λk e=>?_,λk e=>?_,?_⟩
  ·rcases e with e | e
   ·exact .inl (.inl ((iZ.out _).2 (.inl e)))
   ·rcases Cz k e with e | e
    ·exact .inl (.inl ((iZ.out _).2 (.inr e)))
    ·right;omega
  ·have:=p6
   simp[World.setCell];rcases e with e | e
   ·omega
   ·have:=(H8.out.1.lt k e).2;omega
  ·refine⟨_,λk=>Iff.rfl,Boxed.set _ Af.out,?_,?_⟩
   ·rw[List.map_append];exact ownsRow_setCell_below H8.out.1 (by dsimp only;omega) _
   ·exact ((HB.out.trans ((cZ.out.afK))).trans ((vQ _ _).grown H8.out.2.1 (by omega) (λg hg=>by have:=(DY.out g hg).1;omega))).blSe _
 case done=>
  rintro D S W hD el bR ⟨v,hS,cF,hown,hB⟩ hK;obtain⟨LF,EB⟩:=afZ (L.filter λy=>decide (y.2.1.host=kk)&&Np.aX z.data.toList y.2.1.str.data.toList);rw[EB] at hown;have Hu:Hid (∀ y,y∈LF↔y∈L/\y.2.1.host=kk/\Np.aX z.data.toList y.2.1.str.data.toList=true):=jq (λy=>by
   rw[<-EB,List.mem_filter];simp)
  have hlf:LF.length<=500:=by
   rw[<-EB];have h1:=List.length_filter_le (λy:Int×PV×Np.Placed=>decide (y.2.1.host=kk)&&Np.aX z.data.toList y.2.1.str.data.toList) L;have h2:=dZ.out.1;have h3:=lK.out;omega
  clear EB;obtain⟨vA,vc,rfl⟩:=hown.form;obtain⟨m,hm⟩:=afZ ((LF.map λy:Int×PV×Np.Placed=>zvn y.2.1).length);have eu:=jq hown;have bc:=cF.cell;have ni:=hB.size;have da:=aeX cn hB;have WR:=jq (MH.out.keep hB (by omega));have jB:=jq ((hB.block (X+3) (by omega)).trans WZ.out);have pa:Hid (D<W.heap.size):=jq (eQ.1 hK).1;have mT:=jq hK;rw[hm] at bc eu cF;have Mp:=jq cF;have HM:=jq hm;have yW:=jq hm;have UD:=jq (show Below X w6 W from hB.afK);have hDX:X+4<=D:=by omega
  have pm:Hid (∀ g,(Value.slice vA m vc).ownBlock=some g->g≠D):=jq (λg hg e=>el ((hS D).2 (.inr (by rw[<-e,<-hg,hm]))));clear hown cF hB hm hK;have kR:=ek [_,_,_] jB.out;have kR0:=kR 0 _ rfl;have kR1:=kR 1 _ rfl;have kR2:=kR 2 _ rfl;have fR:∀ i,W.frozen? ⟨X+3,i,none⟩=false:=λi=>by simp[World.frozen?,jB.out]
  by_cases gY:m=0
  ·subst gY;have kS:Hid (¬ Np.D5 x kk z.data.toList):=jq (by
    rintro⟨p,hp,h1,h2⟩;obtain⟨i,hi⟩:=List.mem_iff_getElem?.1 (show p∈L.map (·.2.2) by rw[iX.out];exact hp);rw[List.getElem?_map] at hi
    cases hy:L[i]? with
    | none=>rw[hy] at hi;cases hi
    | some y=>
     rw[hy] at hi
     cases hi
     have CO:=gQ hy;obtain⟨g1,g2,g3⟩:=AB.out y CO
     have:y∈LF:=(Hu.out y).2 ⟨CO,by rw[g1.host];exact h1,by rw[g1.apex,h2];exact Np.zM _⟩
     have h5:=HM.out;rw[List.length_map] at h5;rw[rQ h5] at this
     cases this)
   gi_wp2_with fail;refine OB rfl mT.out (by omega) jB.out 7 none 0 0 ⟨#[]⟩ rfl rfl (λw' hb=>⟨7,none,0,0,⟨#[]⟩,rfl,⟨λh=>absurd h (by decide),λh=>absurd h kS.out⟩,lT (da.out.trans (hb.afK)) (by omega) _⟩)
  ·have Cg:((m:Int) == 0)=false:=by simpa using gY
   have hown:=eu.out;gi_wp2_with fail;refine⟨trivial,rfl,?_⟩;have Rn:=bgQ (Bh+1+1) (.slice vA m vc) (LF.map λy:Int×PV×Np.Placed=>zvn y.2.1) W hown (by rw[List.length_map];omega);clear hown;refine (callsIn_wide.2 Rn).mono ?_;rintro e w9 ⟨rfl,ys,hp,QZ,Ks,hg⟩;have RM:ys.length=m:=by rw[<-yW.out];exact hp.length_eq
   clear Rn;obtain⟨y0,pZ⟩:∃ y,ys[0]?=some y:=⟨_,aQ (by omega)⟩;obtain⟨yy,RO,xl⟩:∃ yy∈LF,zvn yy.2.1=y0:=by
    have h1:=hp.subset (gQ pZ);obtain⟨yy,h2,h3⟩:=List.mem_map.1 h1;exact⟨yy,h2,h3⟩
   obtain⟨CO,RK,KX⟩:=(Hu.out yy).1 RO;obtain⟨g1,g2,g3⟩:=AB.out yy CO;have cS:Below (Bh+1+1) W w9:=(vQ _ _).grown hg (by omega) (λk e=>(eu.out.lt k e).1);have zu:=cS.size;have QC:=Ks.lt;have gF:=λq hq=>World.ownsRow.cells (g:=q) Ks hq;have V4:=jq ((hg.block D pa.out (λe=>pm.out D e.symm rfl)).trans mT.out);have eN:=aeX da cS;have AK:=jq (WR.out.keep cS (by omega));have WU:=jq ((cS.block (X+3) (by omega)).trans jB.out);have bc9:=aeK cS bc;have DU:=jq ((g1.sets.keep aP (Below.trans UD.out (cS.afK))));have hne:(Value.slice vA m vc).ownBlock≠none:=by
    rcases eu.out.2 with ⟨h0,h1⟩ | ⟨g,cap,cur,h0,_⟩
    ·have:=yW.out;omega
    ·rw[h0];simp[Value.ownBlock]
   obtain⟨g,rfl⟩:∃ g,vA=some ⟨g,0,none⟩:=by
    rcases eu.out.2 with ⟨h0,h1⟩ | ⟨g,cap,cur,h0,_⟩
    ·have:=yW.out;omega
    ·simp only[Value.slice.injEq] at h0;exact⟨g,h0.1⟩
   have e0:w9.cell? ⟨g,0,none⟩=some (.string yy.2.1.str):=by
    have:=gF g rfl 0 (.string yy.2.1.str) (by
     cases ys with
     | nil=>simp at pZ
     | cons a r=>
      simp only[List.getElem?_cons_zero,Option.some.injEq] at pZ;rw[List.map_cons,List.flatten_cons,pZ,<-xl,L1 g3];rfl)
    simpa [Addr.add] using this
   have e1:w9.cell? ⟨g,1,none⟩=some (.slice yy.2.1.A yy.2.1.n yy.2.1.c):=by
    have:=gF g rfl 1 (.slice yy.2.1.A yy.2.1.n yy.2.1.c) (by
     cases ys with
     | nil=>simp at pZ
     | cons a r=>
      simp only[List.getElem?_cons_zero,Option.some.injEq] at pZ;rw[List.map_cons,List.flatten_cons,pZ,<-xl,L1 g3];rfl)
    simpa [Addr.add] using this
   have EW:g<w9.heap.size:=(QC g rfl).2;have V6:Hid (z.data.toList=yy.2.1.str.data.toList↔Np.D5 x kk z.data.toList):=jq (by
    constructor
    ·intro h;exact⟨yy.2.2,g2,by rw[<-g1.host];exact RK,by rw[<-g1.apex];exact h.symm⟩
    ·rintro⟨p,hp',h1,h2⟩;obtain⟨i,hi⟩:=List.mem_iff_getElem?.1 (show p∈L.map (·.2.2) by rw[iX.out];exact hp');rw[List.getElem?_map] at hi
     cases hq:L[i]? with
     | none=>rw[hq] at hi;cases hi
     | some q=>
      rw[hq] at hi
      cases hi
      have Q4:=gQ hq;obtain⟨q1,q2,q3⟩:=AB.out q Q4;have hqF:q∈LF:=(Hu.out q).2 ⟨Q4,by rw[q1.host];exact h1,by rw[q1.apex,h2];exact Np.zM _⟩;have Q9:zvn q.2.1∈ys:=hp.symm.subset (List.mem_map.2 ⟨q,hqF,rfl⟩);have aq:(zvn q.2.1).depth<=y0.depth:=by
       cases ys with
       | nil=>cases Q9
       | cons a r=>
        simp only[List.getElem?_cons_zero,Option.some.injEq] at pZ;rcases List.mem_cons.1 Q9 with h | h
        ·rw[h,pZ];exact Int.le_refl _
        ·rw[<-pZ];exact (List.pairwise_cons.1 QZ).1 _ h
      refine Zs g3 KX ?_;unfold ZVN.depth at aq;rw[<-xl,L2 q3,L2 g3] at aq;dsimp only at aq;rw[q1.apex,h2] at aq;omega)
   have bvJ:=jq g3;have Hb:=jq g1;have XV:=jq (HV.out.each _ g2).2;have XT:=jq (dZ.out.2.2 _ g2);have Xs:=jq KX;have q1:=AK.out 1 _ rfl;have q0:=AK.out 0 _ rfl;clear hp QZ Ks hg pZ RO xl CO RK KX cS gF QC hne bc g1 g2 g3 Cg kR0 kR1 kR2 fR kR RM;obtain⟨T,hT⟩:=afZ w9.heap.size;obtain⟨w10,zm⟩:=afZ (w9.alloc (.cells #[.string yy.2.1.str,.slice yy.2.1.A yy.2.1.n yy.2.1.c] 44));have pF:Below w9.heap.size w9 w10:=by rw[<-zm];exact blAl
   have NU:=jq (eb [.string yy.2.1.str,.slice yy.2.1.A yy.2.1.n yy.2.1.c] 44 hT zm);have kK:=aeX eN pF;have NF:=jq (AK.out.keep pF (by omega));have DR:=jq ((pF.block (X+3) (by omega)).trans WU.out);have V0:=jq ((pF.block D (by have:=pa.out;omega)).trans V4.out);have Xd:=jq ((DU.out.keep aP (pF.afK)).more bK (B':=w10.heap.size) (by have:=pF.size;omega));have Fs:=pF.size;clear pF q0 q1;have q0:=NF.out 0 _ rfl;have q1:=NF.out 1 _ rfl;have t0:=NU.out 0 _ rfl;have t1:=NU.out 1 _ rfl;have hmi:((0:Int)<(m:Int)):=by omega
   gi_wp2_with fail;refine⟨trivial,rfl,?_⟩;refine (callsIn_wide.2 (aOX yy.2.1.str Hb.out.size yy.2.1.A yy.2.1.n yy.2.1.c yy.2.2.zone.sets Hb.out.len (by rw[Hb.out.apex];exact XV.out) XT.out z hz gD.out Xs.out w10 ((ef.out.keep kK.out).more (by omega)) Xd.out)).mono ?_;rintro e w11 ⟨kd,A',n',m',cs,rfl,Ca,EL⟩;have DH:=jq (Ca.trans V6.out);have qn:=aeX kK EL;have vr:=jq ((EL.block (X+3) (by omega)).trans DR.out);have V3:=jq ((EL.block D (by have:=pa.out;omega)).trans V0.out);clear Ca EL q0 q1 t0 t1;have kR:=ek [_,_,_] vr.out;have kR0:=kR 0 _ rfl;have kR1:=kR 1 _ rfl;have kR2:=kR 2 _ rfl;have fR:∀ i,w11.frozen? ⟨X+3,i,none⟩=false:=λi=>by simp[World.frozen?,vr.out]
   gi_wp2_with fail;refine OB rfl V3.out (by omega) vr.out kd A' n' m' cs rfl rfl (λw' hb=>⟨kd,A',n',m',cs,rfl,DH.out,lT (qn.out.trans (hb.afK)) (by omega) _⟩)
end
end Go.Proofs.YtfnopgdcaanaiaaGreatDoor
