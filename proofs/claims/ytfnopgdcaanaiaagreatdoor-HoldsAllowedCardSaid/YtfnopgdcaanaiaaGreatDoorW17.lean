/- Parts of the proof. No condition. -/
import Derived.Test.YtfnopgdcaanaiaaGreatDoorW08
import Derived.Test.YtfnopgdcaanaiaaGreatDoorW10
import Derived.Test.YtfnopgdcaanaiaaGreatDoorW13
set_option linter.all false
set_option maxRecDepth 100000
set_option maxHeartbeats 8000000
namespace Go.Proofs.YtfnopgdcaanaiaaGreatDoor
open Go.Proofs.Tryz
section
open Go.RowKit
theorem TF{B:Nat}{M:Nat->Prop}{w:World}(hM:∀ k,M k->B<=k):Below B w (bA w M):=
 ⟨rfl,rfl,rfl,by rw[kB];exact bQ _,λk hk=>ls (λh=>by have:=hM k h;omega)⟩
theorem SlR.around{α:Type}{R:aFJ α}{sz B:Nat}{w:World}{v:Value}{xs:List α}{M:Nat->Prop}(h:SlR R sz w B v xs)(hk:dL R)(hm:dZ R)(hM:∀ k,M k->B<=k)(hB:B<=w.heap.size):SlR R sz (bA w M) w.heap.size v xs:=
 (h.keep hk (TF hM)).more hm hB
theorem bF.keep{α:Type}{R:aFJ α}{sz:Nat}{e:TypeId}{base:Nat}{M:Nat->Prop}{w w':World}{v:Value}{xs:List α}(h:bF R sz e base M w v xs)(hk:dL R)(hs:gP R)(hm:dZ R)(hb:Below w.heap.size w w'):bF R sz e base M w' v xs:=by
 refine h.leaves hk hs hm (Leaves'.of_below hb) (λg hg=>?_);obtain⟨rows,h1,h2,h3,h4⟩:=h;exact⟨hb.block g (h2.lt g hg).2,h3 g hg⟩
theorem bF.lt{α:Type}{R:aFJ α}{sz:Nat}{e:TypeId}{base:Nat}{M:Nat->Prop}{w:World}{v:Value}{xs:List α}(h:bF R sz e base M w v xs):∀ g,v.ownBlock=some g->base<=g/\g<w.heap.size:=by
 obtain⟨rows,h1,h2,h3,h4⟩:=h;exact h2.lt
theorem bF.formN{α:Type}{R:aFJ α}{sz:Nat}{e:TypeId}{base:Nat}{M:Nat->Prop}{w:World}{v:Value}{xs:List α}{n:Nat}(h:bF R sz e base M w v xs)(hn:xs.length=n):∃ A c,v = .slice A n c:=by
 subst hn;exact h.form
theorem bF.slr_sans{α:Type}{R:aFJ α}{sz:Nat}{e:TypeId}{base:Nat}{M M':Nat->Prop}{w:World}{v:Value}{xs:List α}(hs:gP R)(hm:dZ R)(h:bF R sz e base M w v xs)(hM:∀ k,M' k->M k/\v.ownBlock≠some k)(hl:xs.length<=140737488355328):SlR R sz (bA w M') w.heap.size v xs:=by
 obtain⟨rows,h1,h2,h3,h4⟩:=h;have h5:ct R sz e base w.heap.size (bA w M') v xs:=⟨rows,h1,gY h2 (λg hg=>ls (λhm'=>(hM g hm').2 hg)),λi r x hr hx=>⟨(h4 i r x hr hx).1,hs _ _ _ _ _ _ (λk hk=>(hM k hk).1) (h4 i r x hr hx).2⟩⟩;have h6:=h5.slr hm (by rw[kB];exact bQ _) hl;rwa [kB] at h6
theorem Leaves'.slr{α:Type}{R:aFJ α}{sz:Nat}(hk:dL R)(hs:gP R)(hm:dZ R){M M':Nat->Prop}{w w':World}(h:Leaves' M w w' M'){v:Value}{xs:List α}(hr:SlR R sz (bA w M) w.heap.size v xs):SlR R sz (bA w' M') w'.heap.size v xs:=by
 have hb:Below w.heap.size (bA w M) (bA w' λk=>M k\/M' k):=by
  refine⟨h.os,h.tape,h.output,by rw[kB,kB];exact h.size,λk hk=>?_⟩;by_cases hm:M k
  ·rw[wJ hm,wJ (Or.inl hm)];have h1:k<w'.heap.size:=lQ hk h.size;simp[hk,h1]
  ·have hk':=h.keep k hk hm;rw[ls hm,ls (λe=>e.elim hm hk'.1)];exact hk'.2
 exact ((hr.keep hk hb).more hm h.size).sans hs (λ_ e=>.inr e)
def J1{α:Type}(R:aFJ α)(B n:Nat)(w:World)(e:List Value)(x:α):Prop:=∀ M:Nat->Prop,(∀ k,M k->B<=k/\k<n)->R (bA w M) w.heap.size e x
def gZ{α:Type}(R:aFJ α)(sz B n:Nat)(w:World)(v:Value)(xs:List α):Prop:=∀ M:Nat->Prop,(∀ k,M k->B<=k/\k<n)->SlR R sz (bA w M) w.heap.size v xs
theorem J1.all{α:Type}{R:aFJ α}{B n:Nat}{w:World}{e:List Value}{x:α}(h:J1 R B n w e x)(hs:gP R):R w w.heap.size e x:=hs.all (h (λ_=>False) (λ_ e=>e.elim))
theorem gZ.all{α:Type}{R:aFJ α}{sz B n:Nat}{w:World}{v:Value}{xs:List α}(h:gZ R sz B n w v xs)(hs:gP R):SlR R sz w w.heap.size v xs:=(h (λ_=>False) (λ_ e=>e.elim)).all hs

def Gu(W:World)(B:Nat)(e:List Value)(x:Np.WorldP):Prop:=∃ (hv zv:Value) (s:ByteArray) (dv dV:Value),e = [hv,zv,.string s,.int .i64 x.anchor.type,.int .i64 x.anchor.life,dv,dV]/\s.data.toList=x.anchor.name/\s.size<=140737488355328/\
 SlR kf 3 W B hv x.hosts/\SlR uI 3 W B zv x.zones/\SlR bK 3 W B dv x.anchor.data/\SlR kP 1 W B dV x.hints
theorem alJ:dL Gu:=λ_ _ _ _ _ ⟨hv,cv,s,dv,dV,h0,h1,h2,h3,h4,h5,h6⟩ hb=>⟨hv,cv,s,dv,dV,h0,h1,h2,h3.keep o6 hb,h4.keep Ey hb,h5.keep cM hb,h6.keep qV hb⟩
theorem alK:dZ Gu:=λ_ _ _ _ _ ⟨hv,cv,s,dv,dV,h0,h1,h2,h3,h4,h5,h6⟩ hb=>⟨hv,cv,s,dv,dV,h0,h1,h2,h3.more yx hb,h4.more Js hb,h5.more dt hb,h6.more yy hb⟩
theorem mP{α:Type}(R:aFJ α)(sz:Nat)(w:World)(B:Nat):SlR R sz w B (.slice none 0 0) []:=⟨none,0,rfl,by simp,by simp,λi x hx=>by simp at hx⟩
theorem U0{sz:Nat}{rows:List (List Value)}(hl:∀ r∈rows,r.length=sz){i j:Nat}{r:List Value}{v:Value}(hi:rows[i]?=some r)(hj:r[j]?=some v):rows.flatten[i * sz+j]?=some v:=by
 induction rows generalizing i with
 | nil=>simp at hi
 | cons y l ih=>
  have hy:=hl y (by simp);rw[List.flatten_cons]
  cases i with
  | zero=>
   simp at hi;subst hi
   have:=(cQ.1 hj).1
   rw[Nat.zero_mul,Nat.zero_add,List.getElem?_append_left (by omega)];exact hj
  | succ i=>
   rw[oQ (by rw[hy,Nat.succ_mul];omega),hy,show (i+1) * sz+j - sz=i * sz+j by rw[Nat.succ_mul];omega];exact ih (λr hr=>hl r (mQ _ hr)) (by simpa using hi)
theorem TQ(w:World)(l:List Value)(T:TypeId):ek (w.alloc (.cells l.toArray T)) w.heap.size 0 l:=λj v hj=>by
 have h:=heap_alloc_new w (.cells l.toArray T);unfold World.cell?;rw[h,Nat.zero_add];simpa using hj
theorem Ql{α:Type}{R:aFJ α}{sz:Nat}{w:World}{B b n:Nat}{xs:List α}(rows:List (List Value))(hn:xs.length=n)(hb:b<B)(hs:n<=1000)(hc:ek w b 0 rows.flatten)(hl:∀ r∈rows,r.length=sz)(hr:∀ (i:Nat) (x:α),xs[i]?=some x->∃ r,rows[i]?=some r/\R w B r x):SlR R sz w B (.slice (some ⟨b,0,none⟩) n n) xs:=by
 subst hn;refine⟨_,_,rfl,bQ _,by omega,λi x hx=>?_⟩;obtain⟨r,h1,h2⟩:=hr i x hx;exact⟨b,0,r,rfl,hb,hl r (gQ h1),λj v hj=>by
  have:=hc _ v (U0 hl h1 hj)
  rwa [Nat.zero_add] at this |-,h2⟩
theorem kx{α:Type}{R:aFJ α}{w:World}{B b:Nat}{x:α}(r:List Value)(hb:b<B)(hc:ek w b 0 r)(h:R w B r x):SlR R r.length w B (.slice (some ⟨b,0,none⟩) 1 1) [x]:=
 Ql [r] rfl hb (by omega) (by simpa using hc) (by simp) (λi y hy=>by
  match i,hy with
  | 0,hy=>cases hy;exact⟨_,rfl,h⟩
  | i+1,hy=>simp at hy)
theorem OZ{α:Type}{R:aFJ α}{w:World}{B b:Nat}{x y z:α}(r s t:List Value)(hl:s.length=r.length)(eK:t.length=r.length)(hb:b<B)(hc:ek w b 0 (r++s++t))(h:R w B r x)(h2:R w B s y)(h3:R w B t z):SlR R r.length w B (.slice (some ⟨b,0,none⟩) 3 3) [x,y,z]:=
 Ql [r,s,t] rfl hb (by omega) (by simpa using hc) (by simp[hl,eK]) (λi u hu=>by
  match i,hu with
  | 0,hu=>cases hu;exact⟨_,rfl,h⟩
  | 1,hu=>cases hu;exact⟨_,rfl,h2⟩
  | 2,hu=>cases hu;exact⟨_,rfl,h3⟩
  | i+3,hu=>simp at hu)
theorem ek.off{w:World}{b o:Nat}{e:List Value}(h:ek w b o e){M:Nat->Prop}(hM:¬ M b):ek (bA w M) b o e:=λj v hj=>(iQ (a:=⟨b,o+j,none⟩) (ls hM)).trans (h j v hj)
theorem Ty{α:Type}{R:aFJ α}{sz:Nat}{p:Nat->Prop}{w w':World}{v:Value}{xs:List α}(h:∀ M:Nat->Prop,(∀ k,M k->p k)->SlR R sz (bA w M) w.heap.size v xs)(hk:dL R)(hm:dZ R)(hb:Below w.heap.size w w'){M:Nat->Prop}(hM:∀ k,M k->p k\/w.heap.size<=k):SlR R sz (bA w' M) w'.heap.size v xs:=by
 have h1:=h (λk=>M k/\k<w.heap.size) (λk e=>(hM k e.1).resolve_right (by omega));refine (h1.keep hk ?_).more hm hb.size;refine⟨hb.os,hb.tape,hb.output,by rw[kB,kB];exact hb.size,λk hk=>?_⟩;by_cases hm:M k
 ·have h1:k<w'.heap.size:=lQ hk hb.size;rw[wJ hm,wJ (M:=λk=>M k/\k<w.heap.size) ⟨hm,hk⟩];simp[hk,h1]
 ·rw[ls hm,ls (M:=λk=>M k/\k<w.heap.size) (λe=>hm e.1)];exact hb.block k hk
theorem gZ.later{α:Type}{R:aFJ α}{sz n:Nat}{w w':World}{v:Value}{xs:List α}(h:gZ R sz 0 n w v xs)(hk:dL R)(hm:dZ R)(hb:Below w.heap.size w w'){M:Nat->Prop}(hM:∀ k,M k->k<n\/w.heap.size<=k):SlR R sz (bA w' M) w'.heap.size v xs:=
 Ty h hk hm hb (λk e=>(hM k e).imp (λe=>⟨jQ _,e⟩) id)
theorem gZ.keep{α:Type}{R:aFJ α}{sz n:Nat}{w w':World}{v:Value}{xs:List α}(h:gZ R sz 0 n w v xs)(hk:dL R)(hm:dZ R)(hb:Below w.heap.size w w'):gZ R sz 0 n w' v xs:=λ_ hM=>h.later hk hm hb (λk e=>.inl (hM k e).2)
theorem gZ.nil{α:Type}(R:aFJ α)(sz n:Nat)(w:World):gZ R sz 0 n w (.slice none 0 0) []:=λ_ _=>mP _ _ _ _
theorem gZ.form{α:Type}{R:aFJ α}{sz n:Nat}{w:World}{v:Value}{xs:List α}(h:gZ R sz 0 n w v xs):∃ A c,v = .slice A xs.length c:=by
 obtain⟨A,c,rfl,_⟩:=ak (h (λ_=>False) (λ_ e=>e.elim));exact⟨_,_,rfl⟩
theorem zX{w w':World}{n:Nat}(l:List Value)(T:TypeId)(hn:w.heap.size=n)(he:w'=w.alloc (.cells l.toArray T)):ek w' n 0 l:=by subst hn;subst he;exact TQ w l T
structure OneAt(n:Nat)(w:World)(b:Nat)(l:List Value):Prop where
 lo:n<=b
 hi:b<w.heap.size
 cells:ek w b 0 l
theorem OneAt.keep{n:Nat}{w w':World}{b:Nat}{l:List Value}(h:OneAt n w b l)(hb:Below w.heap.size w w'):OneAt n w' b l:=⟨h.lo,lQ h.hi hb.size,h.cells.keep hb h.hi⟩
def lu(w:World)(X:Nat)(L:List Value):Prop:=∀ i v,L[i]?=some v->w.cell? ⟨X,i,none⟩=some v
theorem lu.keep{w w':World}{X B:Nat}{L:List Value}(h:lu w X L)(hb:Below B w w')(hX:X<B):lu w' X L:=λi v hi=>(hb.cell (p:=⟨X,i,none⟩) hX).trans (h i v hi)
theorem jB{w w':World}{X:Nat}(l:List Value)(T:TypeId)(hn:w.heap.size=X)(he:w.alloc (.cells l.toArray T)=w'):lu w' X l:=λi v hi=>by
 have:=zX l T hn he.symm i v hi
 rwa [Nat.zero_add] at this
theorem EF{α:Type}{R:aFJ α}{sz:Nat}{w:World}{B n c:Nat}{A:Option Addr}{xs:List α}(h:SlR R sz w B (.slice A n c) xs):xs.length=n:=by
 obtain⟨A',c',h1,_⟩:=ak h;simp only[Value.slice.injEq] at h1;exact h1.2.1.symm
def Np.eW(e:Np.Ent22):List UInt8×Int×List UInt8:=(e.signed.set.name,e.signed.set.type,e.zone)
theorem Np.LI{a b:Np.Ent22} : Np.BL a b↔Np.eW a=Np.eW b:=by
 unfold Np.BL Np.eW;rw[Prod.mk.injEq,Prod.mk.injEq]
def Np.pb(l:List Np.Ent22):Prop:=(∀ e∈l,Np.EntOk e)/\l.Pairwise λa b=>¬ Np.BL a b
theorem Np.yI{l:List Np.Ent22} : Np.VCache l↔l.length<=400/\Np.pb l:=⟨λh=>⟨h.few,h.each,h.apart⟩,λh=>⟨h.1,h.2.1,h.2.2⟩⟩
theorem Np.Mt:Np.pb []:=⟨λ_ h=>(Qh h).elim,List.Pairwise.nil⟩
theorem Np.Ms{k:Nat}{l:List Np.Ent22}{x:Np.Ent22}(hx:l[k]?=some x)(h:Np.pb l):Np.EntOk x/\Np.eW x∉(l.take k).map Np.eW:=by
 refine⟨h.1 x (gQ hx),λhm=>?_⟩;obtain⟨y,hy,he⟩:=List.mem_map.1 hm;have h1:(l.take k ++ [x]).Pairwise λa b=>¬ Np.BL a b:=by
  obtain⟨hl,he⟩:=cQ.1 hx
  have:l.take k ++ [x]=l.take (k+1):=by rw[fQ hl,he]
  rw[this];exact h.2.sublist (List.take_sublist _ _)
 exact (List.pairwise_append.1 h1).2.2 y hy x (by simp) (Np.LI.2 he)
theorem Np.Mu{k:Nat}{l:List Np.Ent22}{x:Np.Ent22}(hx:l[k]?=some x)(h:Np.pb (l.take k))(h1:Np.EntOk x)(h2:Np.eW x∉(l.take k).map Np.eW):Np.pb (l.take (k+1)):=by
 obtain⟨hl,he⟩:=cQ.1 hx;have ht:l.take (k+1)=l.take k ++ [x]:=by rw[fQ hl,he]
 rw[ht];refine⟨λp hp=>?_,List.pairwise_append.2 ⟨h.2,by simp,λy hy z hz D5=>?_⟩⟩
 ·rcases List.mem_append.1 hp with hp | hp
  ·exact h.1 p hp
  ·rw[List.mem_singleton] at hp;subst hp;exact h1
 ·rw[List.mem_singleton] at hz;subst hz;exact h2 (List.mem_map.2 ⟨y,hy,Np.LI.1 D5⟩)
def Np.rn(s z:List UInt8):Prop:=Np.aA s=true/\Np.aA z=true/\Np.dP z=false/\Np.bi s z=true
def Np.Gy(u:Int):Prop:=1<=u/\u<=20100001
def Np.zL(e:Np.Ent22):Prop:=(1<=e.signed.set.type/\e.signed.set.type<=8)/\(0<=e.signed.set.life/\e.signed.set.life<=100000)/\e.signed.sigs = []
theorem Np.kU{e:Np.Ent22} : Np.EntOk e↔(Np.rn e.signed.set.name e.zone/\Np.Gy e.til)/\((e.signed.set.data = []/\Np.zL e)\/(e.signed.set.data≠[]/\Np.cN e.signed.set=true/\Np.dY e.zone e.signed.sigs)):=
 ⟨λh=>⟨⟨⟨h.name,h.zone,h.wild,h.under⟩,h.til⟩,h.kind⟩,λh=>⟨h.1.1.1,h.1.1.2.1,h.1.1.2.2.1,h.1.1.2.2.2,h.1.2,h.2⟩⟩
def Np.Gx(l:List Np.Ent22):Prop:=∀ e∈l,Np.qr e.signed
def cH(W:World)(B:Nat)(e:List Value)(x:Np.Ent22):Prop:=∃ (s z:ByteArray) (dv sv:Value),s.data.toList=x.signed.set.name/\s.size<=140737488355328/\z.data.toList=x.zone/\z.size<=140737488355328/\SlR bK 3 W B dv x.signed.set.data/\SlR dl 6 W B sv x.signed.sigs/\e = [.string s,.int .i64 x.signed.set.type,.int .i64 x.signed.set.life,dv,sv,.string z,.int .i64 x.til]
theorem eR:dL cH:=λ_ _ _ _ _ ⟨s,z,dv,sv,h1,h2,h3,h4,h5,h6,h7⟩ hb=>⟨s,z,dv,sv,h1,h2,h3,h4,h5.keep cM hb,h6.keep dD hb,h7⟩
theorem ir:dZ cH:=λ_ _ _ _ _ ⟨s,z,dv,sv,h1,h2,h3,h4,h5,h6,h7⟩ hb=>⟨s,z,dv,sv,h1,h2,h3,h4,h5.more dt hb,h6.more eu hb,h7⟩
theorem uT{w:World}{B n c:Nat}{A:Option Addr}{xs:List Np.Ent22}(h:SlR cH 7 w B (.slice A n c) xs){k:Nat}{x:Np.Ent22}(hx:xs[k]?=some x):∃ (b o:Nat) (s z:ByteArray) (dA:Option Addr) (dn dc:Nat) (gA:Option Addr) (gn gc:Nat),A=some ⟨b,o,none⟩/\b<B/\s.data.toList=x.signed.set.name/\s.size<=140737488355328/\z.data.toList=x.zone/\z.size<=140737488355328/\SlR bK 3 w B (.slice dA dn dc) x.signed.set.data/\SlR dl 6 w B (.slice gA gn gc) x.signed.sigs/\x.signed.set.data.length=dn/\x.signed.sigs.length=gn/\
 ek w b (o+k * 7) [.string s,.int .i64 x.signed.set.type,.int .i64 x.signed.set.life,.slice dA dn dc,.slice gA gn gc,.string z,.int .i64 x.til]:=by
 obtain⟨A',c',hA',_,_,bX⟩:=h
 cases hA'
 obtain⟨b,o,e,hA,bD,hlen,hce,s,z,dv,sv,h1,h2,h3,h4,h5,h6,he⟩:=bX k _ hx;subst he;obtain⟨dA,dc,rfl,_⟩:=ak h5;obtain⟨gA,gc,rfl,_⟩:=ak h6;exact⟨b,o,s,z,dA,_,dc,gA,_,gc,hA,bD,h1,h2,h3,h4,h5,h6,rfl,rfl,hce⟩
end
section
open Go.RowKit Go.Shelf
section
attribute [local go_sem] Oper.semAt_some
theorem YK(t:ByteArray)(ht:t.size<=140737488355328)(hv:Np.aA t.data.toList=false)(w:World) :
 Calls prog 187 #[.string t] w (aFQ w.heap.size w (.tuple #[.slice none 0 0,.int .i64 11])):=by
 have HV:=jq hv;clear hv;refine (callsIn_wide (n:=0)).1 ?_;refine callsIn_of_wp_marks func187 rfl trivial ?_ rfl;simp only[ntmps187,List.size_toArray,List.length_cons,List.length_nil,Nat.reduceAdd,Nat.reduceSub,Array.replicate_succ,Array.replicate_zero,List.push_toArray,List.append_toArray,List.nil_append,List.cons_append];gi_wp2_with fail;refine⟨trivial,rfl,?_⟩;refine (callsIn_wide.2 (valid_any t ht _)).mono ?_;rintro e w1 ⟨rfl,aB⟩;rw[HV.out];have aq:=jq aB;clear aB;gi_wp2_with fail;exact kh (v:=.tuple #[.slice none 0 0,.int .i64 11]) (by simp[results,results187,go_sem]) ⟨rfl,aq.out⟩
end
theorem TD(s z:ByteArray)(hs:s.size<=140737488355328)(hz:z.size<=140737488355328)(w:World) :
 Calls prog 219 #[.string s,.string z] w (aFQ w.heap.size w (.bool (Np.yes (Np.rn s.data.toList z.data.toList)))):=by
 obtain⟨r,hr⟩:=aCQ (Np.yes (Np.rn s.data.toList z.data.toList));rw[hr];have HR:=jq hr;have HS:=jq hs;have HZ:=jq hz;clear hr hs hz
 cases hv:Np.aA z.data.toList with
 | false=>
  have HX:Hid (r=false):=jq (by rw[<-HR.out];exact Np.aC (λk=>absurd (hv.symm.trans k.2.1) (by decide)));have HV:=jq hv;clear hv;go_enter func219,ntmps219;go_wp2_with fail;refine (YK z HZ.out HV.out _).mono ?_;rintro e w1 ⟨rfl,hb⟩;have HB:=jq hb;clear hb;go_wp2_with fail;go_ret;exact⟨ag HX.out.symm,HB.out⟩
 | true=>
  have hw:=JV hv;obtain⟨ps,ft⟩:=aCQ (Np.eG z.data.toList);rw[ft] at hw;have nc:=jq ft;have HW:=jq hw;have HV:=jq hv;clear hw hv ft;go_enter func219,ntmps219;go_wp2_with fail;refine (OW z HV.out _).mono ?_;rw[nc.out];rintro e w1 ⟨⟨v,rfl,qG⟩,hb⟩;have HB:=jq hb;clear hb;obtain⟨A,c,rfl,hc,hl,he⟩:=qG
  cases ps with
  | nil=>
   have nj:Hid (Np.dP z.data.toList=false):=jq (by rw[HW.out];rfl);clear he hc hl;go_wp2_with fail
   cases da:Np.aA s.data.toList with
   | false=>
    have HF:Hid (r=false):=jq (by rw[<-HR.out];exact Np.aC (λk=>absurd (da.symm.trans k.1) (by decide)));refine (QC s z HS.out _ da).mono ?_;rintro e w2 ⟨rfl,ae⟩;have ai:=jq (HB.out.trans (ae.mono HB.out.size));clear ae da;go_wp2_with fail;go_ret;exact⟨ag HF.out.symm,ai.out⟩
   | true=>
    obtain⟨u,hu⟩:=aCQ (Np.bi s.data.toList z.data.toList);have HF:Hid (r=u):=jq (by
     rw[<-HR.out,<-hu,Bool.eq_iff_iff,Np.fj];exact⟨λk=>k.2.2.2,λk=>⟨da,HV.out,nj.out,k⟩⟩)
    refine (B4 s z HS.out HZ.out _ da HV.out).mono ?_;rw[hu];rintro e w2 ⟨rfl,ae⟩;have ai:=jq (HB.out.trans (ae.mono HB.out.size));clear ae da hu
    cases u with
    | true=>
     go_wp2_with fail;go_ret;exact⟨ag HF.out.symm,ai.out⟩
    | false=>
     go_wp2_with fail;go_ret;exact⟨ag HF.out.symm,ai.out⟩
  | cons x xs=>
   obtain⟨b,o,e,rfl,bD,_,hce,sx,li,_,rfl⟩:=he 0 x rfl;have h0:w1.cell? ⟨b,o,none⟩=some (.string sx):=by have:=hce 0 _ rfl;simpa using this
   obtain⟨q,hq⟩:=aCQ (sx.toList == [42]);have HX:Hid (Np.dP z.data.toList=q):=jq (by rw[HW.out,<-hq,dQ,li,List.head?_cons,Bool.eq_iff_iff];simp);obtain⟨n,hn⟩:=aCQ ((x::xs).length);have iH:0<n:=by rw[<-hn];simp
   have NS:(0:Int)<(n:Int):=by omega
   rw[hn];clear he hce hc hl hn li
   cases q with
   | true=>
    have HF:Hid (r=false):=jq (by rw[<-HR.out];exact Np.aC (λk=>absurd (HX.out.symm.trans k.2.2.1) (by decide)));go_wp2_with fail;go_ret;exact⟨ag HF.out.symm,HB.out⟩
   | false=>
    have nj:Hid (Np.dP z.data.toList=false):=HX;go_wp2_with fail
    cases da:Np.aA s.data.toList with
    | false=>
     have HF:Hid (r=false):=jq (by rw[<-HR.out];exact Np.aC (λk=>absurd (da.symm.trans k.1) (by decide)));refine (QC s z HS.out _ da).mono ?_;rintro e w2 ⟨rfl,ae⟩;have ai:=jq (HB.out.trans (ae.mono HB.out.size));clear ae da;go_wp2_with fail;go_ret;exact⟨ag HF.out.symm,ai.out⟩
    | true=>
     obtain⟨u,hu⟩:=aCQ (Np.bi s.data.toList z.data.toList);have HF:Hid (r=u):=jq (by
      rw[<-HR.out,<-hu,Bool.eq_iff_iff,Np.fj];exact⟨λk=>k.2.2.2,λk=>⟨da,HV.out,nj.out,k⟩⟩)
     refine (B4 s z HS.out HZ.out _ da HV.out).mono ?_;rw[hu];rintro e w2 ⟨rfl,ae⟩;have ai:=jq (HB.out.trans (ae.mono HB.out.size));clear ae da hu
     cases u with
     | true=>
      go_wp2_with fail;go_ret;exact⟨ag HF.out.symm,ai.out⟩
     | false=>
      go_wp2_with fail;go_ret;exact⟨ag HF.out.symm,ai.out⟩
end
section
open Go.RowKit
theorem L4(s z:ByteArray)(ty lf til:Int)(dA:Option Addr)(dn dc:Nat)(gA:Option Addr)(gn gc:Nat)(w:World) :
 Calls prog 147 #[.agg #[.string s,.int .i64 ty,.int .i64 lf,.slice dA dn dc,.slice gA gn gc,.string z,.int .i64 til]] w (aFQ w.heap.size w (.agg #[.string s,.int .i64 ty,.string z])):=by
 go_enter func147,ntmps147;go_wp2_with fail;refine bodyPost_ret (v:=.agg #[.string s,.int .i64 ty,.string z]) (by simp[results,results147,go_sem]) rfl ⟨rfl,?_⟩
 first
  | exact ((vQ _ _).alloc (bQ _) _).alloc (by simp) _
  | exact ((((((vQ _ _).alloc (bQ _) _).alloc (by simp) _).setCell (by simp) _).setCell (by simp) _).setCell (by simp) _)
theorem T6(t:Int)(w:World):Calls prog 220 #[.int .i64 t] w λe w'=>e = .returned (.bool (decide (0<=t)&&decide (t<=100000)))/\w'=w:=by
 by_cases h1:0<=t
 ·have lH:decide (0<=t)=true:=uQ h1;go_enter func220,ntmps220;go_wp2_with fail;exact bodyPost_ret (v:=.bool (decide (t<=100000))) (by simp[results,results220,go_sem]) rfl ⟨by first | rfl | (rw[lH];rfl),rfl⟩
 ·have lH:decide (0<=t)=false:=tQ h1;go_enter func220,ntmps220;go_wp2_with fail;exact bodyPost_ret (v:=.bool false) (by simp[results,results220,go_sem]) rfl ⟨by first | rfl | (rw[lH];rfl),rfl⟩
theorem T3(s z:ByteArray)(hs:s.size<=140737488355328)(hz:z.size<=140737488355328)(ty lf til:Int)(dA:Option Addr)(dn dc:Nat)(gA:Option Addr)(gn gc:Nat)(d:List Np.Datum)(g:List Np.Sig)(w:World)(hR:iR w w.heap.size)(hd:SlR bK 3 w w.heap.size (.slice dA dn dc) d)(hg:SlR dl 6 w w.heap.size (.slice gA gn gc) g) :
 Calls prog 146 #[.agg #[.string s,.int .i64 ty,.int .i64 lf,.slice dA dn dc,.slice gA gn gc,.string z,.int .i64 til]] w λe w'=>e = .returned (.bool (Np.yes (Np.EntOk ⟨⟨⟨s.data.toList,ty,lf,d⟩,g⟩,z.data.toList,til⟩)))/\Below w.heap.size w w':=by
 obtain⟨r,hr⟩:=aCQ (Np.yes (Np.EntOk ⟨⟨⟨s.data.toList,ty,lf,d⟩,g⟩,z.data.toList,til⟩));rw[hr];have cw:Hid (¬ Np.EntOk ⟨⟨⟨s.data.toList,ty,lf,d⟩,g⟩,z.data.toList,til⟩->r=false):=jq (λh=>by rw[<-hr];exact Np.aC h);have nk:Hid (Np.EntOk ⟨⟨⟨s.data.toList,ty,lf,d⟩,g⟩,z.data.toList,til⟩->r=true):=jq (λh=>by rw[<-hr];exact Np.ba h);have HS:=jq hs;have HZ:=jq hz;have HD:=jq hd;have HG:=jq hg;have HR:=jq hR;have j5:Hid (d.length=dn):=jq (EF hd);have pm:Hid (g.length=gn):=jq (EF hg);clear hr hs hz hd hg hR;obtain⟨X,hX⟩:=aCQ w.heap.size;obtain⟨w1,ah⟩:=aCQ ((w.alloc (.cells #[.string s,.int .i64 ty,.int .i64 lf,.slice dA dn dc,.slice gA gn gc,.string z,.int .i64 til] 83)).alloc (.cells #[.string s,.int .i64 ty,.int .i64 lf,.slice dA dn dc] 26));have bk:w1.heap.size=X+2:=by rw[<-ah,<-hX];simp
 have hb:Below w.heap.size w w1:=by rw[<-ah];exact ((vQ _ _).alloc (bQ _) _).alloc (by simp) _
 have aM:Hid (lu w1 X [.string s,.int .i64 ty,.int .i64 lf,.slice dA dn dc,.slice gA gn gc,.string z,.int .i64 til]):=jq (by
  rw[<-ah,<-hX];exact (jB [.string s,.int .i64 ty,.int .i64 lf,.slice dA dn dc,.slice gA gn gc,.string z,.int .i64 til] 83 rfl rfl).keep ((vQ _ _).alloc (bQ _) _) (by simp))
 have l3:Hid (lu w1 (X+1) [.string s,.int .i64 ty,.int .i64 lf,.slice dA dn dc]):=jq (by
  have:=jB [.string s,.int .i64 ty,.int .i64 lf,.slice dA dn dc] 26 (w:=w.alloc (.cells #[.string s,.int .i64 ty,.int .i64 lf,.slice dA dn dc,.slice gA gn gc,.string z,.int .i64 til] 83)) (X:=X+1) (by simp[hX]) ah
  exact this)
 have aq:=jq hb;clear hb;have p0:=aM.out 0 _ rfl;have p1:=aM.out 1 _ rfl;have p2:=aM.out 2 _ rfl;have p3:=aM.out 3 _ rfl;have p4:=aM.out 4 _ rfl;have p5:=aM.out 5 _ rfl;have p6:=aM.out 6 _ rfl;have q0:=l3.out 0 _ rfl;have q1:=l3.out 1 _ rfl;have q2:=l3.out 2 _ rfl;have q3:=l3.out 3 _ rfl;go_enter func146,ntmps146;go_wp2_with fail;clear ah;clear p0 p1 p2 p3 p4 p5 p6 q0 q1 q2 q3;refine (TD s z HS.out HZ.out w1).mono ?_;rintro e w2 ⟨rfl,hb⟩;have aK:=hb.size;have bd:=jq (aM.out.keep hb (by omega));have l4:=jq (l3.out.keep hb (by omega));have ai:=aBY aq hb;clear hb;have p5:=bd.out 5 _ rfl;have p6:=bd.out 6 _ rfl;have p4:=bd.out 4 _ rfl;have q0:=l4.out 0 _ rfl;have q1:=l4.out 1 _ rfl;have q2:=l4.out 2 _ rfl;have q3:=l4.out 3 _ rfl;by_cases hin:Np.rn s.data.toList z.data.toList
 case neg=>
  rw[Np.aC hin];have HF:=jq (cw.out (λk=>hin (Np.kU.1 k).1.1));clear hin;go_wp2_with fail;go_ret;exact⟨ag HF.out.symm,ai.out⟩
 case pos=>
  rw[Np.ba hin];have fU:=jq hin;clear hin;by_cases t1:til<1
  ·have d1:decide (til<1)=true:=uQ t1;have HF:=jq (cw.out (λk=>by have:=(Np.kU.1 k).1.2.1;dsimp only at this;omega));clear t1;go_wp2_with fail;go_ret;exact⟨ag HF.out.symm,ai.out⟩
  ·have d1:decide (til<1)=false:=tQ t1;by_cases t2:20100001<til
   ·have d2:decide (20100001<til)=true:=uQ t2;have HF:=jq (cw.out (λk=>by have:=(Np.kU.1 k).1.2.2;dsimp only at this;omega));clear t1 t2;go_wp2_with fail;go_ret;exact⟨ag HF.out.symm,ai.out⟩
   ·have d2:decide (20100001<til)=false:=tQ t2;have zx:Hid (Np.Gy til):=jq ⟨by omega,by omega⟩;clear t1 t2;by_cases hn:dn=0
    ·subst hn;have lv:Hid (d = []):=jq (rQ j5.out);have n7:Hid (Np.zL ⟨⟨⟨s.data.toList,ty,lf,d⟩,g⟩,z.data.toList,til⟩->r=true):=jq (λk=>nk.out (Np.kU.2 ⟨⟨fU.out,zx.out⟩,.inl ⟨lv.out,k⟩⟩));have qn:Hid (¬ Np.zL ⟨⟨⟨s.data.toList,ty,lf,d⟩,g⟩,z.data.toList,til⟩->r=false):=jq (λh=>cw.out (λk=>by
      rcases (Np.kU.1 k).2 with h2 | h2
      ·exact h h2.2
      ·exact h2.1 lv.out))
     by_cases t3:1<=ty
     case neg=>
      have d3:decide (1<=ty)=false:=tQ t3;have HF:=jq (qn.out (λk=>t3 k.1.1));clear t3;go_wp2_with fail;go_ret;exact⟨ag HF.out.symm,ai.out⟩
     case pos=>
      have d3:decide (1<=ty)=true:=uQ t3;by_cases t4:ty<=8
      case neg=>
       have d4:decide (ty<=8)=false:=tQ t4;have HF:=jq (qn.out (λk=>t4 k.1.2));clear t3 t4;go_wp2_with fail;go_ret;exact⟨ag HF.out.symm,ai.out⟩
      case pos=>
       have d4:decide (ty<=8)=true:=uQ t4;have di:Hid (1<=ty/\ty<=8):=jq ⟨t3,t4⟩;clear t3 t4;obtain⟨lb,tk⟩:=aCQ (decide (0<=lf)&&decide (lf<=100000));have gF:=jq tk;go_wp2_with fail;refine (T6 lf w2).mono ?_;rw[gF.out];rintro e w3 ⟨rfl,eE⟩;rw[eE];clear eE tk w3
       cases lb with
       | false=>
        have HF:=jq (qn.out (λk=>by
         have h1:=gF.out;have h2:=k.2.1;dsimp only at h2;rw[uQ h2.1,uQ h2.2] at h1
         cases h1))
        go_wp2_with fail;go_ret;exact⟨ag HF.out.symm,ai.out⟩
       | true=>
        have xl:Hid (0<=lf/\lf<=100000):=jq (by
         have h1:=gF.out;simp only[Bool.and_eq_true,Qa] at h1;exact h1)
        by_cases gz:gn=0
        ·subst gz;have HF:=jq (n7.out ⟨di.out,xl.out,rQ pm.out⟩);go_wp2_with fail;go_ret;exact⟨ag HF.out.symm,ai.out⟩
        ·have n1:((gn:Int) == 0)=false:=by simpa using gz
         have n2:(gn == 0)=false:=by simpa using gz
         have n3:decide ((gn:Int)=0)=false:=aDJ;have HF:=jq (qn.out (λk=>gz (by rw[<-pm.out];have:=k.2.2;dsimp only at this;rw[this];rfl)));go_wp2_with fail;go_ret;refine⟨ag ?_,ai.out⟩
         first | exact HF.out.symm | rfl | exact n1 | exact n2 | exact n3 | simp[gz]
    ·have n1:((dn:Int) == 0)=false:=by simpa using hn
     have n2:(dn == 0)=false:=by simpa using hn
     have n3:decide ((dn:Int)=0)=false:=aDJ;have lv:Hid (d≠[]):=jq (λh=>hn (by rw[<-j5.out,h];rfl));have n7:Hid (r=(Np.cN ⟨s.data.toList,ty,lf,d⟩&&Np.yes (Np.dY z.data.toList g))):=jq (by
      by_cases h1:Np.cN ⟨s.data.toList,ty,lf,d⟩=true
      ·by_cases h2:Np.dY z.data.toList g
       ·rw[h1,Np.ba h2];exact nk.out (Np.kU.2 ⟨⟨fU.out,zx.out⟩,.inr ⟨lv.out,h1,h2⟩⟩)
       ·rw[h1,Np.aC h2];refine cw.out (λk=>?_);rcases (Np.kU.1 k).2 with h3 | h3
        ·exact lv.out h3.1
        ·exact h2 h3.2.2
      ·rw[Bool.not_eq_true] at h1;rw[h1];refine cw.out (λk=>?_);rcases (Np.kU.1 k).2 with h3 | h3
       ·exact lv.out h3.1
       ·have h4:=h3.2.1;dsimp only at h4;rw[h1] at h4
        cases h4)
     clear hn;obtain⟨vb,lU⟩:=aCQ (Np.cN ⟨s.data.toList,ty,lf,d⟩);have ni:=jq lU;clear lU;go_wp2_with fail;refine (Jn s HS.out ty lf _ d w2 ((HR.out.keep ai.out).more ai.out.size) ((HD.out.keep cM ai.out).more dt ai.out.size)).mono ?_;rw[ni.out];rintro e w3 ⟨rfl,hb⟩;have bg:=jq (bd.out.keep hb (by omega));have am:=aBY ai hb;clear hb p4 p5 p6 q0 q1 q2 q3;have p4:=bg.out 4 _ rfl;have p5:=bg.out 5 _ rfl
     cases vb with
     | false=>
      go_wp2_with fail;go_ret;exact⟨ag (by rw[n7.out,ni.out];rfl),am.out⟩
     | true=>
      go_wp2_with fail;refine (T5 z _ g w3 ((HG.out.keep dD am.out).more eu am.out.size)).mono ?_;rintro e w4 ⟨rfl,hb⟩;have aP:=jq (am.out.trans (hb.mono am.out.size));clear hb;go_wp2_with fail;go_ret;exact⟨ag (by rw[n7.out,ni.out];rfl),aP.out⟩
end
section
open Go.RowKit Go.MapKept
theorem Uw(v:Value)(l:List Np.Ent22)(w:World)(hR:iR w w.heap.size)(hd:SlR cH 7 w w.heap.size v l) :
 Calls prog 76 #[.agg #[v]] w λe w'=>e = .returned (.bool (Np.yes (Np.VCache l)))/\Below w.heap.size w w':=by
 obtain⟨r,hr⟩:=aCQ (Np.yes (Np.VCache l));rw[hr];have cw:Hid (¬ Np.VCache l->r=false):=jq (λh=>by rw[<-hr];exact Np.aC h);have nk:Hid (Np.VCache l->r=true):=jq (λh=>by rw[<-hr];exact Np.ba h);have jd:=jq hd;have fV:=jq hR;obtain⟨A,c,rfl,_,_⟩:=ak hd;obtain⟨n,hn⟩:=aCQ l.length;rw[hn] at jd |-;have dh:=jq hn;clear hr hR hd hn;obtain⟨X,hX⟩:=aCQ w.heap.size;rw[hX] at fV jd;have HD:Hid (SlR cH 7 w X (.slice A n c) l):=jd;by_cases Dc:400<n
 ·have fG:decide (400<(n:Int))=true:=aDX;have HF:=jq (cw.out (λk=>by have:=k.few;have:=dh.out;omega));clear Dc;go_enter func76,ntmps76;go_wp2_with fail;go_ret;exact⟨ag HF.out.symm,(vQ _ _).alloc (bQ _) _⟩
 ·have fG:decide (400<(n:Int))=false:=aDJ;have fI:n<=400:=by omega
  have zc:Hid (l.length<=400):=jq (by rw[dh.out];omega);obtain⟨w1,ah⟩:=aCQ ((w.alloc (.cells #[.slice A n c] 76)).alloc (.map #[] 0));have aq:Hid (Below X w w1):=jq (by rw[<-ah,<-hX];exact ((vQ _ _).alloc (bQ _) _).alloc (by simp) _);have Cp:Hid (kc (X+1) [] w1):=jq (by
   rw[<-ah,<-hX];have h0:=kc.made (w.alloc (.cells #[.slice A n c] 76));simpa using h0)
  have bk:w1.heap.size=X+2:=by rw[<-ah,<-hX];simp
  have k0:w1.cell? ⟨X,0,none⟩=some (.slice A n c):=by rw[<-ah,<-hX];simp[go_sem]
  have lN:∀ (w:World),(Instr.makeMap 219 none).run prog w = .ok (.map (some w.heap.size)) (w.alloc (.map #[] 0)):=λw=>by
   simp[Instr.makeMap,Result.andThen]
  clear Dc;go_enter func76,ntmps76;go_wp2_with fail;clear lN k0 fG
  try rw[ah]
  clear ah
  try rw[hX]
  go_loopw [14] (λi wr=>∃ k:Nat,k<=n/\i = .int .i64 k/\Hid (Below X w wr)/\X+1<wr.heap.size/\Hid (kc (X+1) (((l.take k).map Np.eW).map λy=>(y,Value.bool true)) wr)/\Hid (Np.pb (l.take k))) (λi _=>n - (intOf i).toNat)
  case atStart=>exact⟨0,jQ _,rfl,aq,by omega,Cp,jq Np.Mt⟩
  case round=>
   obtain⟨k,hk,rfl,HB,dJ,HM,HV⟩:=hrel;have an:=HB.out.size;by_cases aa:k<n
   ·obtain⟨x,ac⟩:∃ x,l[k]?=some x:=⟨_,aQ (by rw[dh.out];exact aa)⟩;obtain⟨b,o,s,z,dA,dn,dc,gA,gn,gc,rfl,bD,ar,ip,gJ,gK,aO,nD,jI,nC,hce⟩:=uT (HD.out.keep eR HB.out) ac;have dF:=jq (λh1 h2=>Np.Mu ac HV.out h1 h2);have fU:=jq (λh=>Np.Ms (l:=l) ac h);have HT:Hid ((l.take (k+1)).map Np.eW=(l.take k).map Np.eW ++ [Np.eW x]):=jq (by
     obtain⟨hl,he⟩:=cQ.1 ac;rw[fQ hl,he,List.map_append];rfl)
    have iv:Hid (Np.eW x=(s.data.toList,x.signed.set.type,z.data.toList)):=jq (by unfold Np.eW;rw[ar,gJ]);have kL:Hid (x=⟨⟨⟨s.data.toList,x.signed.set.type,x.signed.set.life,x.signed.set.data⟩,x.signed.sigs⟩,z.data.toList,x.til⟩):=jq (by rw[ar,gJ]);have f0:=hce 0 _ rfl;have f1:=hce 1 _ rfl;have f2:=hce 2 _ rfl;have f3:=hce 3 _ rfl;have f4:=hce 4 _ rfl;have f5:=hce 5 _ rfl;have f6:=hce 6 _ rfl;simp only[Nat.add_zero] at f0;have jy:=jq aO;have l6:=jq nD;have fJ:=jq (And.intro ip gK);have bV:(0:Int)<=(k:Int):=by omega
    have bT:(k:Int)<(n:Int):=by omega
    obtain⟨E,hE⟩:=aCQ wr.heap.size;obtain⟨w2,aj⟩:=aCQ (wr.alloc (.cells #[.string s,.int .i64 x.signed.set.type,.int .i64 x.signed.set.life,.slice dA dn dc,.slice gA gn gc,.string z,.int .i64 x.til] 83));have aK:w2.heap.size=E+1:=by rw[<-aj,<-hE];simp
    have ae:Below wr.heap.size wr w2:=by rw[<-aj];exact (vQ _ _).alloc (bQ _) _
    have bd:Hid (lu w2 E [.string s,.int .i64 x.signed.set.type,.int .i64 x.signed.set.life,.slice dA dn dc,.slice gA gn gc,.string z,.int .i64 x.til]):=jq (jB _ _ hE aj);have ai:=aBY HB ae;have gE:Hid (Below X wr w2):=jq (ae.aDQ);have KA:=jq (HM.out.keep ae dJ);obtain⟨ty,dC⟩:=aCQ x.signed.set.type;obtain⟨lf,ld⟩:=aCQ x.signed.set.life;obtain⟨til,mE⟩:=aCQ x.til;obtain⟨dd,hdd⟩:=aCQ x.signed.set.data;obtain⟨gg,AX⟩:=aCQ x.signed.sigs;rw[dC] at bd iv kL f1;rw[ld] at bd kL f2;rw[mE] at bd kL f6;rw[hdd] at kL jy;rw[AX] at kL l6;rw[dC,ld,mE] at aj;have q0:=bd.out 0 _ rfl;have q1:=bd.out 1 _ rfl;have q2:=bd.out 2 _ rfl;have q3:=bd.out 3 _ rfl;have q4:=bd.out 4 _ rfl;have q5:=bd.out 5 _ rfl;have q6:=bd.out 6 _ rfl;clear ac ar gJ ip gK aO nD jI nC hce ae dC ld mE hdd AX HM;go_wp2_with fail
    try rw[hE]
    clear aj f0 f1 f2 f3 f4 f5 f6;refine (T3 s z fJ.out.1 fJ.out.2 ty lf til dA dn dc gA gn gc dd gg w2 ((fV.out.keep ai.out).more (by omega)) ((jy.out.keep cM gE.out).more dt (by omega)) ((l6.out.keep dD gE.out).more eu (by omega))).mono ?_;rw[<-kL.out];rintro e w3 ⟨rfl,hb⟩;have eF:=hb.size;have am:=aBY ai hb;have oa:=jq (KA.out.keep hb (by omega));have bg:=jq (bd.out.keep hb (by omega));clear hb q0 q1 q2 q3 q4 q5 q6;by_cases dO:Np.EntOk x
    case neg=>
     rw[Np.aC dO];have HF:=jq (cw.out (λh=>dO (fU.out (Np.yI.1 h).2).1));clear dO;go_wp2_with fail;go_ret;exact⟨ag HF.out.symm,by rw[hX];exact am.out⟩
    case pos=>
     rw[Np.ba dO];have bl:=jq dO;clear dO;have q0:=bg.out 0 _ rfl;have q1:=bg.out 1 _ rfl;have q2:=bg.out 2 _ rfl;have q3:=bg.out 3 _ rfl;have q4:=bg.out 4 _ rfl;have q5:=bg.out 5 _ rfl;have q6:=bg.out 6 _ rfl;go_wp2_with fail;refine (L4 s z ty lf til dA dn dc gA gn gc w3).mono ?_;rintro e w4 ⟨rfl,hb⟩;have fd:=hb.size;have aP:=aBY am hb;have xm:=jq (oa.out.keep hb (by omega));have el:=jq (bg.out.keep hb (by omega));have dN:(Instr.lookup 219 (.map (some (X+1))) (.agg #[.string s,.int .i64 ty,.string z]) false).run prog w4 = .ok (.bool (decide ((s.data.toList,ty,z.data.toList)∈(l.take k).map Np.eW))) w4:=by
      have:=akQ w4 219 4 underlying219 (X+1) _ xm.out (s.data.toList,ty,z.data.toList) (.bool false) (by kernel_rfl)
      rw[BM] at this;exact this
     rw[<-iv.out] at dN;clear hb q0 q1 q2 q3 q4 q5 q6;by_cases hm:Np.eW x∈(l.take k).map Np.eW
     case pos=>
      rw[uQ hm] at dN;have HF:=jq (cw.out (λh=>(fU.out (Np.yI.1 h).2).2 hm));clear hm;go_wp2_with fail;go_ret;exact⟨ag HF.out.symm,by rw[hX];exact aP.out⟩
     case neg=>
      rw[tQ hm] at dN;have uy:=jq hm;clear hm;have q0:=el.out 0 _ rfl;have q1:=el.out 1 _ rfl;have q2:=el.out 2 _ rfl;have q3:=el.out 3 _ rfl;have q4:=el.out 4 _ rfl;have q5:=el.out 5 _ rfl;have q6:=el.out 6 _ rfl;go_wp2_with fail;refine (L4 s z ty lf til dA dn dc gA gn gc w4).mono ?_;rintro e w5 ⟨rfl,hb⟩;have iJ:=hb.size;have cm:=aBY aP hb;have qm:=jq (xm.out.keep hb (by omega));have DM:(((l.take k).map Np.eW).map λy=>(y,Value.bool true)).lookup (s.data.toList,ty,z.data.toList)=none:=by
       rw[<-iv.out];exact Ef _ _ uy.out
      obtain⟨wU,qH,nH,cu⟩:=alQ w5 219 4 underlying219 (X+1) _ qm.out (s.data.toList,ty,z.data.toList) (.bool true) (.inl DM);rw[Qb DM] at nH;replace qH:(Instr.mapUpdate 219 (.map (some (X+1))) (.agg #[.string s,.int .i64 ty,.string z]) (.bool true)).run prog w5 = .ok () wU:=qH;have ob:Hid (kc (X+1) (((l.take (k+1)).map Np.eW).map λy=>(y,Value.bool true)) wU):=jq (by
       rw[HT.out,List.map_append,iv.out];exact nH)
      have sF:Hid (Below X w wU):=jq (cm.out.trans (cu.below (by omega)));have D7:X+1<wU.heap.size:=by rw[cu.size];omega
      have Gi:Hid (Np.pb (l.take (k+1))):=jq (dF.out bl.out uy.out);clear hb dN DM nH cu q0 q1 q2 q3 q4 q5 q6;go_wp2_with fail;go_roundw
      case rel=>exact⟨k+1,by omega,by go_num,sF,D7,ob,Gi⟩
      case measure=>simp[intOf] <;> omega
   ·have zA:Hid (Np.pb l):=jq (by have:=HV.out;rwa [kQ (by rw[dh.out];omega)] at this);have HF:=jq (nk.out (Np.yI.2 ⟨zc.out,zA.out⟩));go_wp2_with fail;go_ret;exact⟨ag HF.out.symm,by rw[hX];exact HB.out⟩
end
section
open Go.RowKit
theorem aaY(s z:ByteArray)(hs:s.size<=140737488355328)(hz:z.size<=140737488355328)(w:World) :
 Calls prog 148 #[.string s,.string z] w (aFQ w.heap.size w (.bool (Np.yes (Np.rn s.data.toList z.data.toList)))):=by
 obtain⟨r,hr⟩:=aCQ (Np.yes (Np.rn s.data.toList z.data.toList));rw[hr];have cw:Hid (¬ Np.rn s.data.toList z.data.toList->r=false):=jq (λh=>by rw[<-hr];exact Np.aC h);have nk:Hid (Np.rn s.data.toList z.data.toList->r=true):=jq (λh=>by rw[<-hr];exact Np.ba h);have HS:=jq hs;have HZ:=jq hz;clear hr hs hz;obtain⟨v1,h1⟩:=aCQ (Np.aA s.data.toList);obtain⟨v2,h2⟩:=aCQ (Np.aA z.data.toList);have H1:=jq h1;have H2:=jq h2;clear h1 h2;go_enter func148,ntmps148;go_wp2_with fail;refine (tW s HS.out w).mono ?_;rw[H1.out];rintro e w1 ⟨rfl,hb⟩;have aq:=jq hb;clear hb;go_wp2_with fail;refine (tW z HZ.out w1).mono ?_;rw[H2.out];rintro e w2 ⟨rfl,hb⟩;have ai:=jq (aq.out.trans (hb.mono aq.out.size));clear hb
 cases v1 with
 | false=>
  have HF:=jq (cw.out (λk=>absurd (H1.out.symm.trans k.1) (by decide)));go_wp2_with fail;go_ret;exact⟨ag HF.out.symm,ai.out⟩
 | true=>
  cases v2 with
  | false=>
   have HF:=jq (cw.out (λk=>absurd (H2.out.symm.trans k.2.1) (by decide)));go_wp2_with fail;go_ret;exact⟨ag HF.out.symm,ai.out⟩
  | true=>
   obtain⟨wi,h3⟩:=aCQ (Np.dP z.data.toList);have H3:=jq h3;clear h3;go_wp2_with fail;refine (Jq z H2.out w2).mono ?_;rw[H3.out];rintro e w3 ⟨rfl,hb⟩;have am:=jq (ai.out.trans (hb.mono ai.out.size));clear hb
   cases wi with
   | true=>
    have HF:=jq (cw.out (λk=>absurd (H3.out.symm.trans k.2.2.1) (by decide)));go_wp2_with fail;go_ret;exact⟨ag HF.out.symm,am.out⟩
   | false=>
    obtain⟨u,h4⟩:=aCQ (Np.bi s.data.toList z.data.toList);have HF:Hid (r=u):=jq (by
     cases u with
     | true=>exact nk.out ⟨H1.out,H2.out,H3.out,h4⟩
     | false=>exact cw.out (λk=>absurd (h4.symm.trans k.2.2.2) (by decide)))
    have ci:∀ w,Calls prog 222 #[.string s,.string z] w (aFQ w.heap.size w (.bool u)):=λw=>by
     rw[<-h4,<-Np.yn (O6 H2.out)];exact BV s z (by have:=tU H1.out;omega) (by have:=tU H2.out;omega) _
    have mV:=jq ci;clear h4 ci;go_wp2_with fail;refine (mV.out w3).mono ?_;rintro e w4 ⟨rfl,hb⟩;have aP:=jq (am.out.trans (hb.mono am.out.size));clear hb;go_wp2_with fail;go_ret;exact⟨ag HF.out.symm,aP.out⟩
theorem aaK(s z:ByteArray)(ty lf til:Int)(dA:Option Addr)(dn dc:Nat)(gA:Option Addr)(gn gc:Nat)(w:World) :
 Calls prog 149 #[.agg #[.string s,.int .i64 ty,.int .i64 lf,.slice dA dn dc,.slice gA gn gc,.string z,.int .i64 til]] w (aFQ w.heap.size w (.bool (decide (dn=0)))):=by
 go_enter func149,ntmps149;go_wp2_with fail;refine bodyPost_ret (v:=.bool (decide (dn=0))) ?_ rfl ⟨rfl,(vQ _ _).alloc (bQ _) _⟩;by_cases h:dn=0
 ·subst h;simp[results,results149,go_sem]
 ·simp[results,results149,go_sem,h]
theorem aaX(s z:ByteArray)(hs:s.size<=140737488355328)(hz:z.size<=140737488355328)(ty lf til:Int)(dA:Option Addr)(dn dc:Nat)(gA:Option Addr)(gn gc:Nat)(d:List Np.Datum)(g:List Np.Sig)(w:World)(hd:SlR bK 3 w w.heap.size (.slice dA dn dc) d)(hg:SlR dl 6 w w.heap.size (.slice gA gn gc) g) :
 Calls prog 77 #[.agg #[.string s,.int .i64 ty,.int .i64 lf,.slice dA dn dc,.slice gA gn gc,.string z,.int .i64 til]] w λe w'=>e = .returned (.bool (Np.yes (Np.EntOk ⟨⟨⟨s.data.toList,ty,lf,d⟩,g⟩,z.data.toList,til⟩)))/\Below w.heap.size w w':=by
 obtain⟨r,hr⟩:=aCQ (Np.yes (Np.EntOk ⟨⟨⟨s.data.toList,ty,lf,d⟩,g⟩,z.data.toList,til⟩));rw[hr];have cw:Hid (¬ Np.EntOk ⟨⟨⟨s.data.toList,ty,lf,d⟩,g⟩,z.data.toList,til⟩->r=false):=jq (λh=>by rw[<-hr];exact Np.aC h);have nk:Hid (Np.EntOk ⟨⟨⟨s.data.toList,ty,lf,d⟩,g⟩,z.data.toList,til⟩->r=true):=jq (λh=>by rw[<-hr];exact Np.ba h);have HS:=jq hs;have HZ:=jq hz;have HD:=jq hd;have HG:=jq hg;have j5:Hid (d.length=dn):=jq (EF hd);have pm:Hid (g.length=gn):=jq (EF hg);clear hr hs hz hd hg;obtain⟨X,hX⟩:=aCQ w.heap.size;obtain⟨w1,ah⟩:=aCQ ((w.alloc (.cells #[.string s,.int .i64 ty,.int .i64 lf,.slice dA dn dc,.slice gA gn gc,.string z,.int .i64 til] 83)).alloc (.cells #[.string s,.int .i64 ty,.int .i64 lf,.slice dA dn dc] 26));have bk:w1.heap.size=X+2:=by rw[<-ah,<-hX];simp
 have hb:Below w.heap.size w w1:=by rw[<-ah];exact ((vQ _ _).alloc (bQ _) _).alloc (by simp) _
 have aM:Hid (lu w1 X [.string s,.int .i64 ty,.int .i64 lf,.slice dA dn dc,.slice gA gn gc,.string z,.int .i64 til]):=jq (by
  rw[<-ah,<-hX];exact (jB [.string s,.int .i64 ty,.int .i64 lf,.slice dA dn dc,.slice gA gn gc,.string z,.int .i64 til] 83 rfl rfl).keep ((vQ _ _).alloc (bQ _) _) (by simp))
 have l3:Hid (lu w1 (X+1) [.string s,.int .i64 ty,.int .i64 lf,.slice dA dn dc]):=jq (by
  have:=jB [.string s,.int .i64 ty,.int .i64 lf,.slice dA dn dc] 26 (w:=w.alloc (.cells #[.string s,.int .i64 ty,.int .i64 lf,.slice dA dn dc,.slice gA gn gc,.string z,.int .i64 til] 83)) (X:=X+1) (by simp[hX]) ah
  exact this)
 have aq:=jq hb;clear hb;have p0:=aM.out 0 _ rfl;have p1:=aM.out 1 _ rfl;have p2:=aM.out 2 _ rfl;have p3:=aM.out 3 _ rfl;have p4:=aM.out 4 _ rfl;have p5:=aM.out 5 _ rfl;have p6:=aM.out 6 _ rfl;have q0:=l3.out 0 _ rfl;have q1:=l3.out 1 _ rfl;have q2:=l3.out 2 _ rfl;have q3:=l3.out 3 _ rfl;go_enter func77,ntmps77;go_wp2_with fail;clear ah;clear p0 p1 p2 p3 p4 p5 p6 q0 q1 q2 q3;refine (aaY s z HS.out HZ.out w1).mono ?_;rintro e w2 ⟨rfl,hb⟩;have aK:=hb.size;have bd:=jq (aM.out.keep hb (by omega));have l4:=jq (l3.out.keep hb (by omega));have ai:=aBY aq hb;clear hb;have p0:=bd.out 0 _ rfl;have p1:=bd.out 1 _ rfl;have p2:=bd.out 2 _ rfl;have p3:=bd.out 3 _ rfl;have p4:=bd.out 4 _ rfl;have p5:=bd.out 5 _ rfl;have p6:=bd.out 6 _ rfl;by_cases hin:Np.rn s.data.toList z.data.toList
 case neg=>
  rw[Np.aC hin];have HF:=jq (cw.out (λk=>hin (Np.kU.1 k).1.1));clear hin;go_wp2_with fail;go_ret;exact⟨ag HF.out.symm,ai.out⟩
 case pos=>
  rw[Np.ba hin];have fU:=jq hin;clear hin;by_cases t1:til<1
  ·have d1:decide (til<1)=true:=uQ t1;have HF:=jq (cw.out (λk=>by have:=(Np.kU.1 k).1.2.1;dsimp only at this;omega));clear t1;go_wp2_with fail;go_ret;exact⟨ag HF.out.symm,ai.out⟩
  ·have d1:decide (til<1)=false:=tQ t1;by_cases t2:20100001<til
   ·have d2:decide (20100001<til)=true:=uQ t2;have HF:=jq (cw.out (λk=>by have:=(Np.kU.1 k).1.2.2;dsimp only at this;omega));clear t1 t2;go_wp2_with fail;go_ret;exact⟨ag HF.out.symm,ai.out⟩
   ·have d2:decide (20100001<til)=false:=tQ t2;have zx:Hid (Np.Gy til):=jq ⟨by omega,by omega⟩;clear t1 t2;obtain⟨b0,cE⟩:=aCQ (decide (dn=0));have az:=jq cE;clear cE;go_wp2_with fail;refine (aaK s z ty lf til dA dn dc gA gn gc w2).mono ?_;rw[az.out];rintro e w3 ⟨rfl,hb⟩;have eF:=hb.size;have bg:=jq (bd.out.keep hb (by omega));have sH:=jq (l4.out.keep hb (by omega));have am:=aBY ai hb;clear hb p0 p1 p2 p3 p4 p5 p6;have p4:=bg.out 4 _ rfl;have p5:=bg.out 5 _ rfl;have q0:=sH.out 0 _ rfl;have q1:=sH.out 1 _ rfl;have q2:=sH.out 2 _ rfl;have q3:=sH.out 3 _ rfl
    cases b0 with
    | true=>
     have lv:Hid (d = []):=jq (rQ (j5.out.trans (of_decide_eq_true az.out)));have n7:Hid (Np.zL ⟨⟨⟨s.data.toList,ty,lf,d⟩,g⟩,z.data.toList,til⟩->r=true):=jq (λk=>nk.out (Np.kU.2 ⟨⟨fU.out,zx.out⟩,.inl ⟨lv.out,k⟩⟩));have qn:Hid (¬ Np.zL ⟨⟨⟨s.data.toList,ty,lf,d⟩,g⟩,z.data.toList,til⟩->r=false):=jq (λh=>cw.out (λk=>by
      rcases (Np.kU.1 k).2 with h2 | h2
      ·exact h h2.2
      ·exact h2.1 lv.out))
     by_cases t3:1<=ty
     case neg=>
      have d3:decide (1<=ty)=false:=tQ t3;have HF:=jq (qn.out (λk=>t3 k.1.1));clear t3;go_wp2_with fail;go_ret;exact⟨ag HF.out.symm,am.out⟩
     case pos=>
      have d3:decide (1<=ty)=true:=uQ t3;by_cases t4:ty<=8
      case neg=>
       have d4:decide (ty<=8)=false:=tQ t4;have HF:=jq (qn.out (λk=>t4 k.1.2));clear t3 t4;go_wp2_with fail;go_ret;exact⟨ag HF.out.symm,am.out⟩
      case pos=>
       have d4:decide (ty<=8)=true:=uQ t4;by_cases t5:0<=lf
       case neg=>
        have d5:decide (0<=lf)=false:=tQ t5;have HF:=jq (qn.out (λk=>t5 k.2.1.1));clear t3 t4 t5;go_wp2_with fail;go_ret;exact⟨ag HF.out.symm,am.out⟩
       case pos=>
        have d5:decide (0<=lf)=true:=uQ t5;by_cases t6:lf<=100000
        case neg=>
         have d6:decide (lf<=100000)=false:=tQ t6;have HF:=jq (qn.out (λk=>t6 k.2.1.2));clear t3 t4 t5 t6;go_wp2_with fail;go_ret;exact⟨ag HF.out.symm,am.out⟩
        case pos=>
         have d6:decide (lf<=100000)=true:=uQ t6;by_cases gz:gn=0
         ·subst gz;have HF:=jq (n7.out ⟨⟨t3,t4⟩,⟨t5,t6⟩,rQ pm.out⟩);clear t3 t4 t5 t6;go_wp2_with fail;go_ret;exact⟨ag HF.out.symm,am.out⟩
         ·have n1:((gn:Int) == 0)=false:=by simpa using gz
          have n2:(gn == 0)=false:=by simpa using gz
          have n3:decide ((gn:Int)=0)=false:=aDJ;have HF:=jq (qn.out (λk=>gz (by rw[<-pm.out];have:=k.2.2;dsimp only at this;rw[this];rfl)));clear t3 t4 t5 t6;go_wp2_with fail;go_ret;refine⟨ag ?_,am.out⟩
          first | exact HF.out.symm | rfl | exact n1 | exact n2 | exact n3 | simp[gz]
    | false=>
     have lv:Hid (d≠[]):=jq (λh=>(of_decide_eq_false az.out) (by rw[<-j5.out,h];rfl));have n7:Hid (r=(Np.cN ⟨s.data.toList,ty,lf,d⟩&&Np.yes (Np.dY z.data.toList g))):=jq (by
      by_cases h1:Np.cN ⟨s.data.toList,ty,lf,d⟩=true
      ·by_cases h2:Np.dY z.data.toList g
       ·rw[h1,Np.ba h2];exact nk.out (Np.kU.2 ⟨⟨fU.out,zx.out⟩,.inr ⟨lv.out,h1,h2⟩⟩)
       ·rw[h1,Np.aC h2];refine cw.out (λk=>?_);rcases (Np.kU.1 k).2 with h3 | h3
        ·exact lv.out h3.1
        ·exact h2 h3.2.2
      ·rw[Bool.not_eq_true] at h1;rw[h1];refine cw.out (λk=>?_);rcases (Np.kU.1 k).2 with h3 | h3
       ·exact lv.out h3.1
       ·have h4:=h3.2.1;dsimp only at h4;rw[h1] at h4
        cases h4)
     obtain⟨vb,lU⟩:=aCQ (Np.cN ⟨s.data.toList,ty,lf,d⟩);have ni:=jq lU;clear lU;go_wp2_with fail;refine (Jp s HS.out ty lf _ d w3 ((HD.out.keep cM am.out).more dt am.out.size)).mono ?_;rw[ni.out];rintro e w4 ⟨rfl,hb⟩;have el:=jq (bg.out.keep hb (by omega));have aP:=aBY am hb;clear hb p4 p5 q0 q1 q2 q3;have p4:=el.out 4 _ rfl;have p5:=el.out 5 _ rfl
     cases vb with
     | false=>
      go_wp2_with fail;go_ret;exact⟨ag (by rw[n7.out,ni.out];rfl),aP.out⟩
     | true=>
      go_wp2_with fail;refine (PJ z _ g w4 ((HG.out.keep dD aP.out).more eu aP.out.size)).mono ?_;rintro e w5 ⟨rfl,hb⟩;have cm:=jq (aP.out.trans (hb.mono aP.out.size));clear hb;go_wp2_with fail;go_ret;exact⟨ag (by rw[n7.out,ni.out];rfl),cm.out⟩
theorem aaJ(s1 z1 s2 z2:ByteArray)(t1 l1 u1 t2 l2 u2:Int)(dA:Option Addr)(dn dc:Nat)(gA:Option Addr)(gn gc:Nat)(eA:Option Addr)(en ec:Nat)(hA:Option Addr)(hn hc:Nat)(w:World) :
 Calls prog 78 #[.agg #[.string s1,.int .i64 t1,.int .i64 l1,.slice dA dn dc,.slice gA gn gc,.string z1,.int .i64 u1],.agg #[.string s2,.int .i64 t2,.int .i64 l2,.slice eA en ec,.slice hA hn hc,.string z2,.int .i64 u2]] w (aFQ w.heap.size w (.bool (decide ((s1.data.toList,t1,z1.data.toList)=(s2.data.toList,t2,z2.data.toList))))):=by
 obtain⟨r,hr⟩:=aCQ (decide ((s1.data.toList,t1,z1.data.toList)=(s2.data.toList,t2,z2.data.toList)));rw[hr];have HR:Hid (r=(decide (s1.data.toList=s2.data.toList)&&(decide (t1=t2)&&decide (z1.data.toList=z2.data.toList)))):=jq (by
  rw[<-hr,Bool.eq_iff_iff];simp only[Qa,Bool.and_eq_true,Prod.mk.injEq])
 clear hr;rw[HR.out];by_cases h1:s1.data.toList=s2.data.toList
 case neg=>
  have e1:(s1.toList == s2.toList)=false:=by rw[dQ,dQ];exact beq_eq_false_iff_ne.2 h1
  rw[tQ h1];clear h1;go_enter func78,ntmps78;go_wp2_with fail;go_ret;exact⟨rfl,((vQ _ _).alloc (bQ _) _).alloc (by simp) _⟩
 case pos=>
  have e1:(s1.toList == s2.toList)=true:=by rw[dQ,dQ,h1];simp
  rw[uQ h1];clear h1;by_cases h2:t1=t2
  case neg=>
   have e2:(t1 == t2)=false:=beq_eq_false_iff_ne.2 h2;rw[tQ h2];clear h2;go_enter func78,ntmps78;go_wp2_with fail;go_ret;exact⟨rfl,((vQ _ _).alloc (bQ _) _).alloc (by simp) _⟩
  case pos=>
   subst h2;rw[show decide (t1=t1)=true by simp];obtain⟨b,hb⟩:=aCQ (decide (z1.data.toList=z2.data.toList));have e3:(z1.toList == z2.toList)=b:=by rw[dQ,dQ,<-hb,Bool.eq_iff_iff];simp
   rw[hb];clear hb;go_enter func78,ntmps78;go_wp2_with fail;go_ret;exact⟨rfl,((vQ _ _).alloc (bQ _) _).alloc (by simp) _⟩
def Np.wP(e:Np.Ent22):Prop:=e.signed.set.data.length<=20/\e.signed.sigs.length<=20/\e.zone.length<=100
def Np.EY(l:List Np.Ent22):Prop:=l.length<=410/\∀ e∈l,Np.wP e
theorem UP(v:Value)(l:List Np.Ent22)(w:World)(hd:SlR cH 7 w w.heap.size v l) :
 Calls prog 27 #[.agg #[v]] w λe w'=>e = .returned (.bool (Np.yes (Np.EY l)))/\Below w.heap.size w w':=by
 obtain⟨r,hr⟩:=aCQ (Np.yes (Np.EY l));rw[hr];have HR:=jq hr;have HD:=jq hd;obtain⟨A,c,rfl,bq,bN⟩:=ak hd;clear hr hd;obtain⟨X,hX⟩:=aCQ w.heap.size;obtain⟨n,hn⟩:=aCQ l.length;rw[hn] at HD bq bN |-;have dh:=jq hn;clear hn;obtain⟨W1,ap⟩:=aCQ (w.alloc (.cells #[.slice A n c] 76));have aD:Below w.heap.size w W1:=by rw[<-ap];exact (vQ _ _).alloc (bQ _) _
 have jR:W1.heap.size=w.heap.size+1:=by rw[<-ap];simp
 have k1:W1.cell? ⟨X,0,none⟩=some (.slice A n c):=by rw[<-ap,<-hX];simp[go_sem]
 rw[hX] at aD jR HD |-;have aZ:=jq aD;clear aD;go_enter func27,ntmps27;go_wp2_with fail;clear ap hX;go_loopw [3] (λi wr=>∃ (k:Nat),k<=n/\k<=411/\i = .int .i64 k/\Hid (Below (X+1) W1 wr)/\Hid (∀ x∈l.take k,Np.wP x)) (λi _=>n - (intOf i).toNat)
 case atStart=>exact⟨0,jQ _,jQ _,rfl,jq (vQ _ _),jq (by simp)⟩
 case round=>
  obtain⟨k,hk,WK,rfl,bC,HQ⟩:=hrel;have HB:=aBY aZ bC.out;have q1:=aBX bC.out k1;have an:=bC.out.size;by_cases aa:k<n
  ·by_cases Vn:k<=410
   ·have Hy:decide ((k:Int)<=410)=true:=aDX;obtain⟨x,ac⟩:∃ x,l[k]?=some x:=⟨_,aQ (by rw[dh.out];exact aa)⟩;obtain⟨b,o,s,z,dA,nd,dc,gA,ns,gc,rfl,bD,ar,ip,gJ,gK,aO,nD,nJ,tw,hce⟩:=uT (HD.out.keep eR HB.out) ac;have f0:=hce 0 _ rfl;have f1:=hce 1 _ rfl;have f2:=hce 2 _ rfl;have f3:=hce 3 _ rfl;have f4:=hce 4 _ rfl;have f5:=hce 5 _ rfl;have f6:=hce 6 _ rfl;simp only[Nat.add_zero] at f0;have I3:x.zone.length=z.size:=by rw[<-gJ,aX]
    have HF:Hid (¬ (nd<=20/\ns<=20/\z.size<=100)->r=false):=jq (λh=>by
     rw[<-HR.out];refine Np.aC λq=>h ?_
     have:=q.2 x (gQ ac)
     unfold Np.wP at this;rw[nJ,tw,I3] at this;exact this)
    have qo:Hid (nd<=20/\ns<=20/\z.size<=100->∀ x∈l.take (k+1),Np.wP x):=jq (λh y hy=>by
     obtain⟨hl,he⟩:=cQ.1 ac;rw[fQ hl,he] at hy;rcases List.mem_append.1 hy with hy | hy
     ·exact HQ.out y hy
     ·rw[List.mem_singleton] at hy;subst hy;unfold Np.wP;rw[nJ,tw,I3];exact h)
    have bV:(0:Int)<=(k:Int):=by omega
    have bT:(k:Int)<(n:Int):=by omega
    have aY:Hid (∀ o,Below X w (wr.alloc o)):=jq (λo=>HB.out.alloc (by have:=HB.out.size;omega) _);have Ra:Hid (∀ o,Below (X+1) W1 (wr.alloc o)):=jq (λo=>bC.out.alloc (by omega) _);obtain⟨zs,I4⟩:=aCQ z.size;have Lp:=jq I4;rw[I4] at HF qo;clear ac ar ip gJ gK aO nD nJ tw hce I3 I4;by_cases g1:20<nd
    ·have d1:decide (20<(nd:Int))=true:=aDX;have HX:=jq (HF.out (by omega));clear g1;go_wp2_with fail;go_ret;exact⟨ag HX.out.symm,aY.out _⟩
    ·have d1:decide (20<(nd:Int))=false:=aDJ;by_cases g2:20<ns
     ·have d2:decide (20<(ns:Int))=true:=aDX;have HX:=jq (HF.out (by omega));clear g1 g2;go_wp2_with fail;go_ret;exact⟨ag HX.out.symm,aY.out _⟩
     ·have d2:decide (20<(ns:Int))=false:=aDJ;by_cases g3:100<zs
      ·have d3:decide (100<(z.size:Int))=true:=uQ (by have:=Lp.out;omega);have HX:=jq (HF.out (by omega));clear g1 g2 g3;go_wp2_with fail;go_ret;exact⟨ag HX.out.symm,aY.out _⟩
      ·have d3:decide (100<(z.size:Int))=false:=tQ (by have:=Lp.out;omega);have HX:=jq (qo.out (by omega));clear g1 g2 g3;go_wp2_with fail;go_roundw
       case rel=>exact⟨k+1,by omega,by omega,by go_num,jq (Ra.out _),HX⟩
       case measure=>simp[intOf] <;> omega
   ·have Hy:decide ((k:Int)<=410)=false:=aDJ;have oK:decide ((n:Int)<=410)=false:=aDJ;have HX:Hid (r=false):=jq (by rw[<-HR.out];exact Np.aC λq=>by have:=q.1;rw[dh.out] at this;omega);go_wp2_with fail;go_ret;exact⟨ag HX.out.symm,HB.out⟩
  ·have F1:Hid (∀ x∈l,Np.wP x):=jq (by have:=HQ.out;rwa [kQ (by rw[dh.out];omega)] at this);by_cases Is:n<=410
   ·have oK:decide ((n:Int)<=410)=true:=aDX;have HX:Hid (r=true):=jq (by rw[<-HR.out];exact Np.ba ⟨by rw[dh.out];exact Is,F1.out⟩);go_wp2_with fail;go_ret;exact⟨ag HX.out.symm,HB.out⟩
   ·have oK:decide ((n:Int)<=410)=false:=aDJ;have HX:Hid (r=false):=jq (by rw[<-HR.out];exact Np.aC λq=>by have:=q.1;rw[dh.out] at this;omega);go_wp2_with fail;go_ret;exact⟨ag HX.out.symm,HB.out⟩
theorem abQ(v:Value)(l:List Np.Ent22)(w:World)(hd:SlR cH 7 w w.heap.size v l) :
 Calls prog 34 #[.agg #[v]] w λe w'=>e = .returned (.bool (Np.yes (Np.VCache l)))/\Below w.heap.size w w':=by
 obtain⟨r,hr⟩:=aCQ (Np.yes (Np.VCache l));rw[hr];have cw:Hid (¬ Np.VCache l->r=false):=jq (λh=>by rw[<-hr];exact Np.aC h);have nk:Hid (Np.VCache l->r=true):=jq (λh=>by rw[<-hr];exact Np.ba h);have jd:=jq hd;obtain⟨A,c,rfl,bq,bN⟩:=ak hd;obtain⟨n,hn⟩:=aCQ l.length;rw[hn] at jd bq bN |-;have dh:=jq hn;clear hr hd hn;obtain⟨X,hX⟩:=aCQ w.heap.size;obtain⟨W1,ap⟩:=aCQ (w.alloc (.cells #[.slice A n c] 76));have aD:Below w.heap.size w W1:=by rw[<-ap];exact (vQ _ _).alloc (bQ _) _
 have jR:W1.heap.size=X+1:=by rw[<-ap,<-hX];simp
 have k1:W1.cell? ⟨X,0,none⟩=some (.slice A n c):=by rw[<-ap,<-hX];simp[go_sem]
 rw[hX] at aD jd |-;have HD:Hid (SlR cH 7 w X (.slice A n c) l):=jd;have aZ:=jq aD;clear aD;go_enter func34,ntmps34;go_wp2_with fail;clear ap hX;go_loopw [3] (λi wr=>∃ k:Nat,k<=n/\i = .int .i64 k/\Hid (Below (X+1) W1 wr)/\Hid (Np.pb (l.take k))) (λi _=>n - (intOf i).toNat)
 case atStart=>exact⟨0,jQ _,rfl,jq (vQ _ _),jq Np.Mt⟩
 case round=>
  obtain⟨k,hk,rfl,bC,HV⟩:=hrel;have an:=bC.out.size;have HB:=aBY aZ bC.out;have q1:=aBX bC.out k1;by_cases aa:k<n
  ·obtain⟨x,ac⟩:∃ x,l[k]?=some x:=⟨_,aQ (by rw[dh.out];exact aa)⟩;obtain⟨b,o,s,z,dA,dn,dc,gA,gn,gc,rfl,bD,ar,ip,gJ,gK,aO,nD,jI,nC,hce⟩:=uT (HD.out.keep eR HB.out) ac;have dF:=jq (λh1 h2=>Np.Mu ac HV.out h1 h2);have fU:=jq (λh=>Np.Ms (l:=l) ac h);have iv:Hid (Np.eW x=(s.data.toList,x.signed.set.type,z.data.toList)):=jq (by unfold Np.eW;rw[ar,gJ]);have kL:Hid (x=⟨⟨⟨s.data.toList,x.signed.set.type,x.signed.set.life,x.signed.set.data⟩,x.signed.sigs⟩,z.data.toList,x.til⟩):=jq (by rw[ar,gJ]);have f0:=hce 0 _ rfl;have f1:=hce 1 _ rfl;have f2:=hce 2 _ rfl;have f3:=hce 3 _ rfl;have f4:=hce 4 _ rfl;have f5:=hce 5 _ rfl;have f6:=hce 6 _ rfl;simp only[Nat.add_zero] at f0;have jy:=jq aO;have l6:=jq nD;have fJ:=jq (And.intro ip gK);have xb:=jq hce;have bV:(0:Int)<=(k:Int):=by omega
   have bT:(k:Int)<(n:Int):=by omega
   obtain⟨ty,dC⟩:=aCQ x.signed.set.type;obtain⟨lf,ld⟩:=aCQ x.signed.set.life;obtain⟨til,mE⟩:=aCQ x.til;obtain⟨dd,hdd⟩:=aCQ x.signed.set.data;obtain⟨gg,AX⟩:=aCQ x.signed.sigs;rw[dC] at iv kL f1 xb;rw[ld] at kL f2 xb;rw[mE] at kL f6 xb;rw[hdd] at kL jy;rw[AX] at kL l6;clear ac ar gJ ip gK aO nD jI nC hce dC ld mE hdd AX;go_wp2_with fail;refine (aaX s z fJ.out.1 fJ.out.2 ty lf til dA dn dc gA gn gc dd gg wr (jy.out.more dt (by omega)) (l6.out.more eu (by omega))).mono ?_;rw[<-kL.out];rintro e w3 ⟨rfl,hb⟩;have eF:=hb.size;have am:=aBY bC hb;have Gl:=aBY aZ am.out;replace q1:=aBX hb q1;have bg:Hid (ek w3 b (o+k * 7) [.string s,.int .i64 ty,.int .i64 lf,.slice dA dn dc,.slice gA gn gc,.string z,.int .i64 til]):=jq (λj v hj=>aBX hb (xb.out j v hj));clear hb f0 f1 f2 f3 f4 f5 f6;by_cases dO:Np.EntOk x
   case neg=>
    rw[Np.aC dO];have HF:=jq (cw.out (λh=>dO (fU.out (Np.yI.1 h).2).1));clear dO;go_wp2_with fail;go_ret;exact⟨ag HF.out.symm,Gl.out⟩
   case pos=>
    rw[Np.ba dO];have bl:=jq dO;clear dO;go_wp2_with fail;clear aa hk;go_loopw [4] (λi wr=>∃ q:Nat,q<=k/\i = .int .i64 q/\Hid (Below (X+1) w3 wr)/\Hid (Np.eW x∉(l.take q).map Np.eW)/\w3.heap.size<=wr.heap.size) (λi _=>k - (intOf i).toNat)
    case atStart=>exact⟨0,jQ _,rfl,jq (vQ _ _),jq (by simp),bQ _⟩
    case round=>
     obtain⟨q,hq,rfl,ra,uz,jP⟩:=hrel;have SZ:=aBY Gl ra.out;have Rc:=jq (am.out.trans ra.out);have r1:=aBX ra.out q1;by_cases tn:q<k
     ·obtain⟨y,eq⟩:∃ y,l[q]?=some y:=⟨_,aQ (by rw[dh.out];omega)⟩;obtain⟨b',o',s',z',dB,em,ec,gB,hm,hc',hA',s9,Oa,XE,OA,Yi,_,_,_,_,jH⟩:=uT (HD.out.keep eR SZ.out) eq;simp only[Option.some.injEq,Addr.mk.injEq,and_true] at hA';obtain⟨rfl,rfl⟩:=hA';have e0:=jH 0 _ rfl;have e1:=jH 1 _ rfl;have e2:=jH 2 _ rfl;have e3:=jH 3 _ rfl;have e4:=jH 4 _ rfl;have e5:=jH 5 _ rfl;have e6:=jH 6 _ rfl;have ul:Hid (ek wr b (o+k * 7) [.string s,.int .i64 ty,.int .i64 lf,.slice dA dn dc,.slice gA gn gc,.string z,.int .i64 til]):=jq (λj v hj=>aBX ra.out (bg.out j v hj));have f0:=ul.out 0 _ rfl;have f1:=ul.out 1 _ rfl;have f2:=ul.out 2 _ rfl;have f3:=ul.out 3 _ rfl;have f4:=ul.out 4 _ rfl;have f5:=ul.out 5 _ rfl;have f6:=ul.out 6 _ rfl;simp only[Nat.add_zero] at f0 e0;have R1:Hid (Np.eW y=(s'.data.toList,y.signed.set.type,z'.data.toList)):=jq (by unfold Np.eW;rw[Oa,OA]);obtain⟨tb,vO⟩:=aCQ (decide (Np.eW y=Np.eW x));have La:=jq vO;have ci:∀ g:bE wr,Calls prog 78 #[.agg #[.string s',.int .i64 y.signed.set.type,.int .i64 y.signed.set.life,.slice dB em ec,.slice gB hm hc',.string z',.int .i64 y.til],.agg #[.string s,.int .i64 ty,.int .i64 lf,.slice dA dn dc,.slice gA gn gc,.string z,.int .i64 til]] g.w λe w'=>e = .returned (.bool tb)/\Below g.w.heap.size g.w w':=λg=>by
       rw[<-vO,R1.out,iv.out];exact aaJ s' z' s z _ _ _ _ _ _ _ _ _ _ _ _ _ _ _ _ _ _ g.w
      have HC:=jq ci;have qD:∀ (g:bE wr) (p:Addr),p.block<wr.heap.size->g.w.cell? p=wr.cell? p:=λg p h=>g.cell p h;have kY:b<X:=bD;have aB:b<wr.heap.size:=by omega
      have oI:X<wr.heap.size:=by omega
      have oP:(0:Int)<=(q:Int):=by omega
      have DT:(q:Int)<(n:Int):=by omega
      have bO:Hid (tb=false->Np.eW x∉(l.take (q+1)).map Np.eW):=jq (λh hm=>by
       obtain⟨hl,he⟩:=cQ.1 eq;rw[fQ hl,he,List.map_append] at hm;rcases List.mem_append.1 hm with hm | hm
       ·exact uz.out hm
       ·rw[List.map_singleton,List.mem_singleton] at hm;exact (of_decide_eq_false (La.out.trans h)) hm.symm)
      have Sf:Hid (tb=true->r=false):=jq (λh=>cw.out (λhv=>(fU.out (Np.yI.1 hv).2).2 (by
       rw[<-of_decide_eq_true (La.out.trans h)];exact List.mem_map.2 ⟨y,gQ (i:=q) (by rw[List.getElem?_take,Qb tn];exact eq),rfl⟩)))
      have lz:Hid (∀ g:bE wr,Below (X+1) w3 g.w/\w3.heap.size<=g.w.heap.size):=jq (λg=>⟨ra.out.trans (g.below.aDQ),by have:=g.size;omega⟩);clear eq Oa XE OA Yi jH vO ci
      cases tb with
      | true=>
       have HF:=jq (Sf.out rfl);go_wp2_with fail;refine aEK ?_
       repeat (go_big_quiet_step ((go_at_call 78;exact Calls.grow_of (HC.out _))))
       refine wpQuiet_nil ?_;rintro _ ⟨g,rfl⟩;go_wp2_with fail;go_ret;exact⟨ag HF.out.symm,Gl.out.trans ((lz.out g).1.aDQ)⟩
      | false=>
       have gG:=jq (bO.out rfl);go_wp2_with fail;refine aEK ?_
       repeat (go_big_quiet_step ((go_at_call 78;exact Calls.grow_of (HC.out _))))
       refine wpQuiet_nil ?_;rintro _ ⟨g,rfl⟩;go_wp2_with fail;go_roundw
       case rel=>exact⟨q+1,by omega,by go_num,jq (lz.out g).1,gG,(lz.out g).2⟩
       case measure=>simp[intOf] <;> omega
     ·have gG:Hid (Np.eW x∉(l.take k).map Np.eW):=jq (by have:=uz.out;rwa [show q=k by omega] at this);have Gi:Hid (Np.pb (l.take (k+1))):=jq (dF.out bl.out gG.out);go_wp2_with fail;go_roundw
      case rel=>exact⟨k+1,by omega,by go_num,Rc,Gi⟩
      case measure=>simp[intOf] <;> omega
  ·have zA:Hid (Np.pb l):=jq (by have:=HV.out;rwa [kQ (by rw[dh.out];omega)] at this);by_cases Dc:n<=400
   ·have oK:decide ((n:Int)<=400)=true:=aDX;have HF:=jq (nk.out (Np.yI.2 ⟨by rw[dh.out];exact Dc,zA.out⟩));go_wp2_with fail;go_ret;exact⟨ag HF.out.symm,HB.out⟩
   ·have oK:decide ((n:Int)<=400)=false:=aDJ;have HF:=jq (cw.out (λk=>by have:=k.few;have:=dh.out;omega));go_wp2_with fail;go_ret;exact⟨ag HF.out.symm,HB.out⟩
end
end Go.Proofs.YtfnopgdcaanaiaaGreatDoor
