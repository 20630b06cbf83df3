/- Parts of the proof. No condition. -/
import Derived.Test.YtfnopgdcaanaiaaGreatDoorK19
set_option linter.all false
set_option maxRecDepth 100000
set_option maxHeartbeats 8000000
namespace Go.Proofs.YtfnopgdcaanaiaaGreatDoor
open Go.Proofs.Tryz
section
open Go.RowKit
theorem kU{α:Type}(R:World->Nat->List Value->α->Prop)(sz:Nat)(w:World)(B:Nat):SlR R sz w B (.slice none 0 0) []:=⟨none,0,rfl,by simp,by simp,λi x hx=>by simp at hx⟩
theorem Wd{sz:Nat}{rows:List (List Value)}(hl:∀ r∈rows,r.length=sz){i j:Nat}{r:List Value}{v:Value}(hi:rows[i]?=some r)(hj:r[j]?=some v):rows.flatten[i * sz+j]?=some v:=by
 induction rows generalizing i with
 | nil=>simp at hi
 | cons y l ih=>
  have hy:=hl y (by simp);rw[List.flatten_cons]
  cases i with
  | zero=>
   simp at hi;subst hi
   have:=(cQ.1 hj).1
   rw[Nat.zero_mul,Nat.zero_add,List.getElem?_append_left (by omega)];exact hj
  | succ i=>
   rw[oQ (by rw[hy,Nat.succ_mul];omega),hy,show (i+1) * sz+j - sz=i * sz+j by rw[Nat.succ_mul];omega];exact ih (λr hr=>hl r (mQ _ hr)) (by simpa using hi)
theorem Vb(w:World)(l:List Value)(T:TypeId):ai (w.alloc (.cells l.toArray T)) w.heap.size 0 l:=λj v hj=>by
 have h:=heap_alloc_new w (.cells l.toArray T);unfold World.cell?;rw[h,Nat.zero_add];simpa using hj
theorem JU{α:Type}{R:World->Nat->List Value->α->Prop}{sz:Nat}{w:World}{B b n:Nat}{xs:List α}(rows:List (List Value))(hn:xs.length=n)(hb:b<B)(hs:n<=1000)(hc:ai w b 0 rows.flatten)(hl:∀ r∈rows,r.length=sz)(hr:∀ (i:Nat) (x:α),xs[i]?=some x->∃ r,rows[i]?=some r/\R w B r x):SlR R sz w B (.slice (some ⟨b,0,none⟩) n n) xs:=by
 subst hn;refine⟨_,_,rfl,bQ _,by omega,λi x hx=>?_⟩;obtain⟨r,h1,h2⟩:=hr i x hx;exact⟨b,0,r,rfl,hb,hl r (gQ h1),λj v hj=>by
  have:=hc _ v (Wd hl h1 hj)
  rwa [Nat.zero_add] at this |-,h2⟩
theorem iY{α:Type}{R:World->Nat->List Value->α->Prop}{w:World}{B b:Nat}{x:α}(r:List Value)(hb:b<B)(hc:ai w b 0 r)(h:R w B r x):SlR R r.length w B (.slice (some ⟨b,0,none⟩) 1 1) [x]:=
 JU [r] rfl hb (by omega) (by simpa using hc) (by simp) (λi y hy=>by
  match i,hy with
  | 0,hy=>cases hy;exact⟨_,rfl,h⟩
  | i+1,hy=>simp at hy)
theorem abQ{α:Type}{R:World->Nat->List Value->α->Prop}{w:World}{B b:Nat}{x y:α}(r s:List Value)(hl:s.length=r.length)(hb:b<B)(hc:ai w b 0 (r++s))(h:R w B r x)(h2:R w B s y):SlR R r.length w B (.slice (some ⟨b,0,none⟩) 2 2) [x,y]:=
 JU [r,s] rfl hb (by omega) (by simpa using hc) (by simp[hl]) (λi z hz=>by
  match i,hz with
  | 0,hz=>cases hz;exact⟨_,rfl,h⟩
  | 1,hz=>cases hz;exact⟨_,rfl,h2⟩
  | i+2,hz=>simp at hz)
theorem PN{α:Type}{R:World->Nat->List Value->α->Prop}{w:World}{B b:Nat}{x y z:α}(r s t:List Value)(hl:s.length=r.length)(dF:t.length=r.length)(hb:b<B)(hc:ai w b 0 (r++s++t))(h:R w B r x)(h2:R w B s y)(h3:R w B t z):SlR R r.length w B (.slice (some ⟨b,0,none⟩) 3 3) [x,y,z]:=
 JU [r,s,t] rfl hb (by omega) (by simpa using hc) (by simp[hl,dF]) (λi u hu=>by
  match i,hu with
  | 0,hu=>cases hu;exact⟨_,rfl,h⟩
  | 1,hu=>cases hu;exact⟨_,rfl,h2⟩
  | 2,hu=>cases hu;exact⟨_,rfl,h3⟩
  | i+3,hu=>simp at hu)
theorem ai.off{w:World}{b o:Nat}{e:List Value}(h:ai w b o e){M:Nat->Prop}(hM:¬ M b):ai (bi w M) b o e:=λj v hj=>(iQ (a:=⟨b,o+j,none⟩) (kS hM)).trans (h j v hj)
theorem US{α:Type}{R:World->Nat->List Value->α->Prop}{sz:Nat}{p:Nat->Prop}{w w':World}{v:Value}{xs:List α}(h:∀ M:Nat->Prop,(∀ k,M k->p k)->SlR R sz (bi w M) w.heap.size v xs)(hk:dl R)(hm:dJ R)(hb:Below w.heap.size w w'){M:Nat->Prop}(hM:∀ k,M k->p k\/w.heap.size<=k):SlR R sz (bi w' M) w'.heap.size v xs:=by
 have h1:=h (λk=>M k/\k<w.heap.size) (λk e=>(hM k e.1).resolve_right (by omega));refine (h1.keep hk ?_).more hm hb.size;refine⟨hb.os,hb.tape,hb.output,by rw[gJ,gJ];exact hb.size,λk hk=>?_⟩;by_cases hm:M k
 ·have h1:k<w'.heap.size:=lQ hk hb.size;rw[wV hm,wV (M:=λk=>M k/\k<w.heap.size) ⟨hm,hk⟩];simp[hk,h1]
 ·rw[kS hm,kS (M:=λk=>M k/\k<w.heap.size) (λe=>hm e.1)];exact hb.block k hk
theorem gq.later{α:Type}{R:World->Nat->List Value->α->Prop}{sz n:Nat}{w w':World}{v:Value}{xs:List α}(h:gq R sz 0 n w v xs)(hk:dl R)(hm:dJ R)(hb:Below w.heap.size w w'){M:Nat->Prop}(hM:∀ k,M k->k<n\/w.heap.size<=k):SlR R sz (bi w' M) w'.heap.size v xs:=
 US h hk hm hb (λk e=>(hM k e).imp (λe=>⟨jQ _,e⟩) id)
theorem gq.keep{α:Type}{R:World->Nat->List Value->α->Prop}{sz n:Nat}{w w':World}{v:Value}{xs:List α}(h:gq R sz 0 n w v xs)(hk:dl R)(hm:dJ R)(hb:Below w.heap.size w w'):gq R sz 0 n w' v xs:=λ_ hM=>h.later hk hm hb (λk e=>.inl (hM k e).2)
theorem gq.nil{α:Type}(R:World->Nat->List Value->α->Prop)(sz n:Nat)(w:World):gq R sz 0 n w (.slice none 0 0) []:=λ_ _=>kU _ _ _ _
theorem gq.form{α:Type}{R:World->Nat->List Value->α->Prop}{sz n:Nat}{w:World}{v:Value}{xs:List α}(h:gq R sz 0 n w v xs):∃ A c,v = .slice A xs.length c:=by
 obtain⟨A,c,rfl,_⟩:=al (h (λ_=>False) (λ_ e=>e.elim));exact⟨_,_,rfl⟩
theorem eN{w w':World}{n:Nat}(l:List Value)(T:TypeId)(hn:w.heap.size=n)(he:w'=w.alloc (.cells l.toArray T)):ai w' n 0 l:=by subst hn;subst he;exact Vb w l T
theorem ai.move{w w':World}{b o:Nat}{e:List Value}(h:ai w b o e)(hb:w'.heap[b]?=w.heap[b]?):ai w' b o e:=λj v hj=>(iQ (a:=⟨b,o+j,none⟩) hb).trans (h j v hj)
structure OneAt(n:Nat)(w:World)(b:Nat)(l:List Value):Prop where
 lo:n<=b
 hi:b<w.heap.size
 cells:ai w b 0 l
theorem OneAt.keep{n:Nat}{w w':World}{b:Nat}{l:List Value}(h:OneAt n w b l)(hb:Below w.heap.size w w'):OneAt n w' b l:=⟨h.lo,lQ h.hi hb.size,h.cells.keep hb h.hi⟩
def qw(w:World)(X:Nat)(L:List Value):Prop:=∀ i v,L[i]?=some v->w.cell? ⟨X,i,none⟩=some v
theorem qw.keep{w w':World}{X B:Nat}{L:List Value}(h:qw w X L)(hb:Below B w w')(hX:X<B):qw w' X L:=λi v hi=>(hb.cell (p:=⟨X,i,none⟩) hX).trans (h i v hi)
theorem jV{w w':World}{X:Nat}(l:List Value)(T:TypeId)(hn:w.heap.size=X)(he:w.alloc (.cells l.toArray T)=w'):qw w' X l:=λi v hi=>by
 have:=eN l T hn he.symm i v hi
 rwa [Nat.zero_add] at this
end
section
open Go.RowKit Go.Shelf
attribute [local go_sem] Oper.semAt_some
theorem U8(n:ByteArray)(hn:n.size<=140737488355328)(ty:Int)(w:World) :
 Calls prog 207 #[.agg #[.string n,.int .i64 ty]] w λe w'=>e = .returned (.bool (Np.aG n.data.toList&&(decide (1<=ty)&&decide (ty<=8))))/\Below w.heap.size w w':=by
 obtain⟨X,hX⟩:∃ X,w.heap.size=X:=⟨_,rfl⟩;obtain⟨w1,aj⟩:∃ w1,w.alloc (.cells #[.string n,.int .i64 ty] 31)=w1:=⟨_,rfl⟩;have hb:Below w.heap.size w w1:=by rw[<-aj];exact (vQ _ _).alloc (bQ _) _
 have bh:w1.heap.size=X+1:=by rw[<-aj,<-hX];simp
 have ay:=jq hb;have k0:w1.cell? ⟨X,0,none⟩=some (.string n):=by rw[<-aj,<-hX];simp[go_sem]
 have k1:w1.cell? ⟨X,1,none⟩=some (.int .i64 ty):=by rw[<-aj,<-hX];simp[go_sem]
 clear hb;go_enter func207,ntmps207;go_wp2_with fail
 try clear aj
 refine (nameValid_any n hn w1).mono ?_;rintro e w2 ⟨rfl,hb⟩;replace k1:=(cl hb (by omega)).trans k1;have ak:=jq (ay.out.trans (hb.mono (by omega)));clear hb k0;obtain⟨r,hr⟩:∃ r,Np.aG n.data.toList=r:=⟨_,rfl⟩;have HR:=jq hr;rw[hr];clear hr
 cases r with
 | false=>
  go_wp2_with fail;exact bodyPost_ret (v:=.bool false) (by simp[results,results207,go_sem]) rfl ⟨by rw[HR.out];rfl,ak.out⟩
 | true=>
  by_cases h1:1<=ty
  ·have vj:decide (1<=ty)=true:=uQ h1;go_wp2_with fail;exact bodyPost_ret (v:=.bool (decide (ty<=8))) (by simp[results,results207,go_sem]) rfl ⟨by rw[HR.out,vj];rfl,ak.out⟩
  ·have vj:decide (1<=ty)=false:=tQ h1;go_wp2_with fail;exact bodyPost_ret (v:=.bool false) (by simp[results,results207,go_sem]) rfl ⟨by rw[HR.out,vj];rfl,ak.out⟩
theorem U9(t:Int)(w:World):Calls prog 208 #[.int .i64 t] w λe w'=>e = .returned (.bool (decide (0<=t)&&decide (t<=20000000)))/\w'=w:=by
 by_cases h1:0<=t
 ·have vj:decide (0<=t)=true:=uQ h1;go_enter func208,ntmps208;go_wp2_with fail;exact bodyPost_ret (v:=.bool (decide (t<=20000000))) (by simp[results,results208,go_sem]) rfl ⟨by first | rfl | (rw[vj];rfl),rfl⟩
 ·have vj:decide (0<=t)=false:=tQ h1;go_enter func208,ntmps208;go_wp2_with fail;exact bodyPost_ret (v:=.bool false) (by simp[results,results208,go_sem]) rfl ⟨by first | rfl | (rw[vj];rfl),rfl⟩
theorem Va(w:World):Calls prog 76 #[.agg #[.slice none 0 0]] w λe w'=>e = .returned (.bool true)/\Below w.heap.size w w':=by
 obtain⟨w1,aj⟩:∃ w1,(w.alloc (.cells #[.slice none 0 0] 76)).alloc (.map #[] 0)=w1:=⟨_,rfl⟩;have HB:Hid (Below w.heap.size w w1):=jq (by rw[<-aj];exact ((vQ _ _).alloc (bQ _) _).alloc (by simp) _);have k0:w1.cell? ⟨w.heap.size,0,none⟩=some (.slice none 0 0):=by rw[<-aj];simp[go_sem]
 have pb:∀ (w:World),(Instr.makeMap 219 none).run prog w = .ok (.map (some w.heap.size)) (w.alloc (.map #[] 0)):=λw=>by
  simp[Instr.makeMap,Result.andThen]
 go_enter func76,ntmps76;go_wp2_with fail;clear pb;go_loopw [14] (λi wr=>i = .int .i64 0/\Hid (Below w.heap.size w wr)) (λi _=>0)
 case atStart=>exact⟨rfl,HB⟩
 case round=>
  obtain⟨rfl,HR⟩:=hrel;go_wp2_with fail;exact bodyPost_ret (v:=.bool true) (by simp[results,results76,go_sem]) rfl ⟨rfl,HR.out⟩
theorem aEK(w:World):Calls prog 209 #[.agg #[.slice none 0 0],.int .i64 0] w λe w'=>e = .returned (.func (.func 281) #[] #[.pointer (some ⟨w.heap.size,0,none⟩),.pointer (some ⟨w.heap.size+1,0,none⟩)])/\w'=(w.alloc (.cells #[.slice none 0 0] 76)).alloc (.cells #[.int .i64 0] 3):=by
 go_enter func209,ntmps209;go_wp2_with fail;go_ret;exact⟨rfl,rfl⟩
theorem VY:∀ args w,(callFunc 281 args).run prog w = .ok (.enter 281 args) w:=enters_of func281 (by kernel_rfl) rfl
theorem aEX(X T:Nat)(Dr:Nat->Prop)(w:World)(hX:Dr X)(kX:w.cell? ⟨X,0,none⟩=some (.slice none 0 0)) :
 Ag prog 281 (λy=>#[y,.pointer (some ⟨X,0,none⟩),.pointer (some ⟨T,0,none⟩)]) (λ_:Unit=>#[.int .i64 0]) [] Dr w:=by
 intro l J Jx S W hW hJ DV hY hS hS' h0;have k1:=(hW.cell (p:=⟨X,0,none⟩) hX).trans kX;clear hW kX;refine callsIn_of_wp func281 rfl trivial ?_ rfl;simp only[ntmps281,List.size_toArray,List.length_cons,List.length_nil,Nat.reduceAdd,Nat.reduceSub,Array.replicate_succ,Array.replicate_zero,List.push_toArray,List.append_toArray,List.nil_append,List.cons_append];gi_wp2_with fail;gi_loopw [9] (λi wr=>i = .int .i64 0/\J [] S wr) (λ_ _=>0)
 case atStart=>exact⟨rfl,h0⟩
 case round=>
  obtain⟨rfl,hj⟩:=hrel;gi_wp2_with fail;go_end0;exact⟨⟨_,rfl⟩,.inl ⟨S,hj,λ_ e=>.inl e⟩⟩
theorem U7(n:ByteArray)(hn:n.size<=140737488355328)(ty:Int)(w:World):Calls prog 126 #[.agg #[.slice none 0 0],.agg #[.string n,.int .i64 ty],.int .i64 0] w λe w'=>e = .returned (.tuple #[.agg #[.string ⟨#[]⟩,.int .i64 0,.int .i64 0,.slice none 0 0,.slice none 0 0,.string ⟨#[]⟩,.int .i64 0],.bool false,.int .i64 (if (Np.aG n.data.toList&&(decide (1<=ty)&&decide (ty<=8)))=true then 0 else 1)])/\Below w.heap.size w w':=by
 obtain⟨r,hr⟩:∃ r,(Np.aG n.data.toList&&(decide (1<=ty)&&decide (ty<=8)))=r:=⟨_,rfl⟩;have qX:=jq hr;rw[hr];clear hr;obtain⟨X,hX⟩:∃ X,w.heap.size=X:=⟨_,rfl⟩;obtain⟨w1,aj⟩:∃ w1,((((w.alloc (.cells #[.slice none 0 0] 76)).alloc (.cells #[.string n,.int .i64 ty] 31)).alloc (.cells #[.string ⟨#[]⟩,.int .i64 0,.int .i64 0,.slice none 0 0,.slice none 0 0,.string ⟨#[]⟩,.int .i64 0] 83)).alloc (.cells #[.bool false] 4)).alloc (.cells #[.int .i64 0] 37)=w1:=⟨_,rfl⟩;have bh:w1.heap.size=X+5:=by rw[<-aj,<-hX];simp
 have hb:Below w.heap.size w w1:=by rw[<-aj];exact (((((vQ _ _).alloc (bQ _) _).alloc (by simp) _).alloc (by simp <;> omega) _).alloc (by simp <;> omega) _).alloc (by simp <;> omega) _
 have k0:w1.cell? ⟨X,0,none⟩=some (.slice none 0 0):=by rw[<-aj,<-hX];simp[go_sem]
 have k1:w1.cell? ⟨X+1,0,none⟩=some (.string n):=by rw[<-aj,<-hX];simp[go_sem]
 have k2:w1.cell? ⟨X+1,1,none⟩=some (.int .i64 ty):=by rw[<-aj,<-hX];simp[go_sem]
 have oE:w1.heap[X+1+1]?=some (.cells #[.string ⟨#[]⟩,.int .i64 0,.int .i64 0,.slice none 0 0,.slice none 0 0,.string ⟨#[]⟩,.int .i64 0] 83 (0,0)):=by
  rw[<-aj,<-hX];have h0:=heap_alloc_new ((w.alloc (.cells #[.slice none 0 0] 76)).alloc (.cells #[.string n,.int .i64 ty] 31)) (.cells #[.string ⟨#[]⟩,.int .i64 0,.int .i64 0,.slice none 0 0,.slice none 0 0,.string ⟨#[]⟩,.int .i64 0] 83);rw[Below.heap_alloc _ _ _ (by simp <;> omega),Below.heap_alloc _ _ _ (by simp <;> omega)];simpa using h0
 have oB:Boxed w1 (X+1+1+1) 4 (.bool false):=by
  rw[<-aj,<-hX];have h0:=(Boxed.new (((w.alloc (.cells #[.slice none 0 0] 76)).alloc (.cells #[.string n,.int .i64 ty] 31)).alloc (.cells #[.string ⟨#[]⟩,.int .i64 0,.int .i64 0,.slice none 0 0,.slice none 0 0,.string ⟨#[]⟩,.int .i64 0] 83)) 4 (.bool false)).alloc (.cells #[.int .i64 0] 37);simpa using h0
 have oR:Boxed w1 (X+1+1+1+1) 37 (.int .i64 0):=by
  rw[<-aj,<-hX];have h0:=Boxed.new ((((w.alloc (.cells #[.slice none 0 0] 76)).alloc (.cells #[.string n,.int .i64 ty] 31)).alloc (.cells #[.string ⟨#[]⟩,.int .i64 0,.int .i64 0,.slice none 0 0,.slice none 0 0,.string ⟨#[]⟩,.int .i64 0] 83)).alloc (.cells #[.bool false] 4)) 37 (.int .i64 0);simpa using h0
 have xJ:=jq (And.intro oE (And.intro oB oR));rw[hX] at hb |-;have ay:=jq hb;clear hb oE oB oR;refine (callsIn_wide (n:=0)).1 ?_;refine callsIn_of_wp_marks func126 rfl trivial ?_ rfl;simp only[ntmps126,List.size_toArray,List.length_cons,List.length_nil,Nat.reduceAdd,Nat.reduceSub,Array.replicate_succ,Array.replicate_zero,List.push_toArray,List.append_toArray,List.nil_append,List.cons_append];gi_wp2_with fail;clear aj;refine⟨trivial,rfl,?_⟩;refine (callsIn_wide.2 (Va w1)).mono ?_;rintro e w2 ⟨rfl,hb⟩;replace k0:=(cl hb (by omega)).trans k0;replace k1:=(cl hb (by omega)).trans k1;replace k2:=(cl hb (by omega)).trans k2;have ak:=jq (ay.out.trans (hb.mono (by omega)));have aT:=jq hb;have aM:=hb.size;clear hb;gi_wp2_with fail;refine⟨trivial,rfl,?_⟩;refine (callsIn_wide.2 (U8 n hn ty w2)).mono ?_;rw[qX.out];rintro e w3 ⟨rfl,hb⟩;replace k0:=(cl hb (by omega)).trans k0;have az:=jq (ak.out.trans (hb.mono (by omega)));have gb:=jq (aT.out.trans (hb.mono (by omega)));have dP:=hb.size;clear hb k1 k2
 cases r with
 | false=>
  have oE:=(gb.out.block (X+1+1) (by omega)).trans xJ.out.1;have oB:Boxed w3 (X+1+1+1) 4 (.bool false):=cR xJ.out.2.1 gb.out (by omega);have oR:Boxed w3 (X+1+1+1+1) 37 (.int .i64 0):=cR xJ.out.2.2 gb.out (by omega);have y0:w3.cell? ⟨X+1+1,0,none⟩=some (.string ⟨#[]⟩):=by simp[World.cell?,oE]
  have z0:w3.frozen? ⟨X+1+1,0,none⟩=false:=by simp[World.frozen?,oE]
  have y1:w3.cell? ⟨X+1+1,1,none⟩=some (.int .i64 0):=by simp[World.cell?,oE]
  have z1:w3.frozen? ⟨X+1+1,1,none⟩=false:=by simp[World.frozen?,oE]
  have y2:w3.cell? ⟨X+1+1,2,none⟩=some (.int .i64 0):=by simp[World.cell?,oE]
  have z2:w3.frozen? ⟨X+1+1,2,none⟩=false:=by simp[World.frozen?,oE]
  have y3:w3.cell? ⟨X+1+1,3,none⟩=some (.slice none 0 0):=by simp[World.cell?,oE]
  have z3:w3.frozen? ⟨X+1+1,3,none⟩=false:=by simp[World.frozen?,oE]
  have y4:w3.cell? ⟨X+1+1,4,none⟩=some (.slice none 0 0):=by simp[World.cell?,oE]
  have z4:w3.frozen? ⟨X+1+1,4,none⟩=false:=by simp[World.frozen?,oE]
  have y5:w3.cell? ⟨X+1+1,5,none⟩=some (.string ⟨#[]⟩):=by simp[World.cell?,oE]
  have z5:w3.frozen? ⟨X+1+1,5,none⟩=false:=by simp[World.frozen?,oE]
  have y6:w3.cell? ⟨X+1+1,6,none⟩=some (.int .i64 0):=by simp[World.cell?,oE]
  have z6:w3.frozen? ⟨X+1+1,6,none⟩=false:=by simp[World.frozen?,oE]
  have bb:=oB.cell;have cb:=oB.frozen;have be:=oR.cell;have ce:=oR.frozen;clear oE oB oR k0;gi_wp2_with fail;refine⟨trivial,?_⟩;gi_wp2_with fail;obtain⟨WF,fD⟩:∃ WF,((((((((((w3.setCell ⟨X+1+1,0,none⟩ (.string ⟨#[]⟩)).setCell ⟨X+1+1,1,none⟩ (.int .i64 0)).setCell ⟨X+1+1,2,none⟩ (.int .i64 0)).setCell ⟨X+1+1,3,none⟩ (.slice none 0 0)).setCell ⟨X+1+1,4,none⟩ (.slice none 0 0)).setCell ⟨X+1+1,5,none⟩ (.string ⟨#[]⟩)).setCell ⟨X+1+1,6,none⟩ (.int .i64 0))).setCell ⟨X+1+1+1,0,none⟩ (.bool false)).setCell ⟨X+1+1+1+1,0,none⟩ (.int .i64 1))=WF:=⟨_,rfl⟩;have sG:Hid (Below X w WF):=jq (by rw[<-fD];exact (((((((((az.out.setCell (by dsimp only;omega) _).setCell (by dsimp only;omega) _).setCell (by dsimp only;omega) _).setCell (by dsimp only;omega) _).setCell (by dsimp only;omega) _).setCell (by dsimp only;omega) _).setCell (by dsimp only;omega) _).setCell (by dsimp only;omega) _).setCell (by dsimp only;omega) _));have EI:WF.heap.size=w3.heap.size:=by rw[<-fD];simp[World.setCell]
  have e0:WF.cell? ⟨X+1+1,0,none⟩=some (.string ⟨#[]⟩):=by rw[<-fD];simp[go_sem,y0]
  have e1:WF.cell? ⟨X+1+1,1,none⟩=some (.int .i64 0):=by rw[<-fD];simp[go_sem,y1]
  have e2:WF.cell? ⟨X+1+1,2,none⟩=some (.int .i64 0):=by rw[<-fD];simp[go_sem,y2]
  have e3:WF.cell? ⟨X+1+1,3,none⟩=some (.slice none 0 0):=by rw[<-fD];simp[go_sem,y3]
  have e4:WF.cell? ⟨X+1+1,4,none⟩=some (.slice none 0 0):=by rw[<-fD];simp[go_sem,y4]
  have e5:WF.cell? ⟨X+1+1,5,none⟩=some (.string ⟨#[]⟩):=by rw[<-fD];simp[go_sem,y5]
  have e6:WF.cell? ⟨X+1+1,6,none⟩=some (.int .i64 0):=by rw[<-fD];simp[go_sem,y6]
  have eb:WF.cell? ⟨X+1+1+1,0,none⟩=some (.bool false):=by rw[<-fD];simp[go_sem,bb]
  have ee:WF.cell? ⟨X+1+1+1+1,0,none⟩=some (.int .i64 1):=by rw[<-fD];simp[go_sem,be]
  rw[fD];exact ll (v:=.tuple #[.agg #[.string ⟨#[]⟩,.int .i64 0,.int .i64 0,.slice none 0 0,.slice none 0 0,.string ⟨#[]⟩,.int .i64 0],.bool false,.int .i64 1]) (by simp[results,results126,go_sem,e0,e1,e2,e3,e4,e5,e6,eb,ee]) ⟨rfl,sG.out⟩
 | true=>
  gi_wp2_with fail;refine⟨trivial,rfl,?_⟩;refine (callsIn_wide.2 (U9 0 w3)).mono ?_;rintro e w4 ⟨rfl,h4⟩;rw[h4];clear h4 w4;gi_wp2_with fail;refine⟨trivial,rfl,?_⟩;refine (callsIn_wide.2 (aEK w3)).mono ?_;rintro e w6 ⟨rfl,bN⟩;have aO:Below w3.heap.size w3 w6:=by rw[bN];exact ((vQ _ _).alloc (bQ _) _).alloc (by simp) _
  have kX:w6.cell? ⟨w3.heap.size,0,none⟩=some (.slice none 0 0):=by rw[bN];simp[go_sem]
  have gI:w6.heap.size=w3.heap.size+2:=by rw[bN];simp
  have uv:=jq (aEX w3.heap.size (w3.heap.size+1) (λk=>k<w6.heap.size) w6 (by omega) kX);have dh:=jq (az.out.trans (aO.mono (by omega)));have oG:=jq (gb.out.trans (aO.mono (by omega)));have Ha:=jq gI;clear bN kX aO k0;gi_wp2_with fail;refine Fp (Dr:=λk=>k<w6.heap.size) (w0:=w6) (first:=#[]) (captured:=#[.pointer (some ⟨w3.heap.size,0,none⟩),.pointer (some ⟨w3.heap.size+1,0,none⟩)]) (gf:=281) rfl VY (mk:=λy=>#[y,.pointer (some ⟨w3.heap.size,0,none⟩),.pointer (some ⟨w3.heap.size+1,0,none⟩)]) (λ_=>rfl)
   uv.out (dU.refl λk e=>e) (λ_=>rfl) (λ_ _ W=>Below w6.heap.size w6 W) (λ_ _ _ _=>False)
   (λs S W W' h av=>uY h av (bQ _) (bQ _)) (λc s S W W' h _=>h)
   (λk=>False) (λk h _=>h) (λk h=>h.elim) (vQ _ _) ?round ?done ?stop
  case stop=>
   rintro D c pre S W hD fu bd fI h hK;exact h.elim
  case round=>
   rintro l0 pre x S W bw hI eu;exact absurd bw (by simp)
  case done=>
   rintro D S W hD fu bd hI hK;have oE:=(hI.block (X+1+1) (by omega)).trans ((oG.out.block (X+1+1) (by omega)).trans xJ.out.1);have oB:Boxed W (X+1+1+1) 4 (.bool false):=cR (cR xJ.out.2.1 oG.out (by omega)) hI (by omega);have oR:Boxed W (X+1+1+1+1) 37 (.int .i64 0):=cR (cR xJ.out.2.2 oG.out (by omega)) hI (by omega);have wD:=hI.size;have y0:W.cell? ⟨X+1+1,0,none⟩=some (.string ⟨#[]⟩):=by simp[World.cell?,oE]
   have z0:W.frozen? ⟨X+1+1,0,none⟩=false:=by simp[World.frozen?,oE]
   have y1:W.cell? ⟨X+1+1,1,none⟩=some (.int .i64 0):=by simp[World.cell?,oE]
   have z1:W.frozen? ⟨X+1+1,1,none⟩=false:=by simp[World.frozen?,oE]
   have y2:W.cell? ⟨X+1+1,2,none⟩=some (.int .i64 0):=by simp[World.cell?,oE]
   have z2:W.frozen? ⟨X+1+1,2,none⟩=false:=by simp[World.frozen?,oE]
   have y3:W.cell? ⟨X+1+1,3,none⟩=some (.slice none 0 0):=by simp[World.cell?,oE]
   have z3:W.frozen? ⟨X+1+1,3,none⟩=false:=by simp[World.frozen?,oE]
   have y4:W.cell? ⟨X+1+1,4,none⟩=some (.slice none 0 0):=by simp[World.cell?,oE]
   have z4:W.frozen? ⟨X+1+1,4,none⟩=false:=by simp[World.frozen?,oE]
   have y5:W.cell? ⟨X+1+1,5,none⟩=some (.string ⟨#[]⟩):=by simp[World.cell?,oE]
   have z5:W.frozen? ⟨X+1+1,5,none⟩=false:=by simp[World.frozen?,oE]
   have y6:W.cell? ⟨X+1+1,6,none⟩=some (.int .i64 0):=by simp[World.cell?,oE]
   have z6:W.frozen? ⟨X+1+1,6,none⟩=false:=by simp[World.frozen?,oE]
   have bb:=oB.cell;have cb:=oB.frozen;have be:=oR.cell;have ce:=oR.frozen;have aU:=jq (dh.out.trans (hI.mono (by omega)));have pF:=jq hK;clear oE oB oR hI hK;gi_wp2_with fail;obtain⟨WF,fD⟩:∃ WF,((((((((((W.setCell ⟨X+1+1,0,none⟩ (.string ⟨#[]⟩)).setCell ⟨X+1+1,1,none⟩ (.int .i64 0)).setCell ⟨X+1+1,2,none⟩ (.int .i64 0)).setCell ⟨X+1+1,3,none⟩ (.slice none 0 0)).setCell ⟨X+1+1,4,none⟩ (.slice none 0 0)).setCell ⟨X+1+1,5,none⟩ (.string ⟨#[]⟩)).setCell ⟨X+1+1,6,none⟩ (.int .i64 0))).setCell ⟨X+1+1+1,0,none⟩ (.bool false)).setCell ⟨X+1+1+1+1,0,none⟩ (.int .i64 0))=WF:=⟨_,rfl⟩;have sG:Hid (Below X w WF):=jq (by rw[<-fD];exact (((((((((aU.out.setCell (by dsimp only;omega) _).setCell (by dsimp only;omega) _).setCell (by dsimp only;omega) _).setCell (by dsimp only;omega) _).setCell (by dsimp only;omega) _).setCell (by dsimp only;omega) _).setCell (by dsimp only;omega) _).setCell (by dsimp only;omega) _).setCell (by dsimp only;omega) _));have EI:WF.heap.size=W.heap.size:=by rw[<-fD];simp[World.setCell]
   have e0:WF.cell? ⟨X+1+1,0,none⟩=some (.string ⟨#[]⟩):=by rw[<-fD];simp[go_sem,y0]
   have e1:WF.cell? ⟨X+1+1,1,none⟩=some (.int .i64 0):=by rw[<-fD];simp[go_sem,y1]
   have e2:WF.cell? ⟨X+1+1,2,none⟩=some (.int .i64 0):=by rw[<-fD];simp[go_sem,y2]
   have e3:WF.cell? ⟨X+1+1,3,none⟩=some (.slice none 0 0):=by rw[<-fD];simp[go_sem,y3]
   have e4:WF.cell? ⟨X+1+1,4,none⟩=some (.slice none 0 0):=by rw[<-fD];simp[go_sem,y4]
   have e5:WF.cell? ⟨X+1+1,5,none⟩=some (.string ⟨#[]⟩):=by rw[<-fD];simp[go_sem,y5]
   have e6:WF.cell? ⟨X+1+1,6,none⟩=some (.int .i64 0):=by rw[<-fD];simp[go_sem,y6]
   have eb:WF.cell? ⟨X+1+1+1,0,none⟩=some (.bool false):=by rw[<-fD];simp[go_sem,bb]
   have ee:WF.cell? ⟨X+1+1+1+1,0,none⟩=some (.int .i64 0):=by rw[<-fD];simp[go_sem,be]
   rw[fD];have WH:WF.heap[D]?=some (.deferred (some [])):=by
    rw[<-fD];simp only[World.setCell,Array.getElem?_modify];simp[show X+1+1≠D by omega,show X+1+1+1≠D by omega,show X+1+1+1+1≠D by omega,pF.out]
   have q:∀ b o v,WF.cell? ⟨b,o,none⟩=some v->b≠D->(WF.putObj D (.deferred none)).cell? ⟨b,o,none⟩=some v:=λb o v h hb=>(iQ (zQ hb)).trans h;refine nN WH (v:=.tuple #[.agg #[.string ⟨#[]⟩,.int .i64 0,.int .i64 0,.slice none 0 0,.slice none 0 0,.string ⟨#[]⟩,.int .i64 0],.bool false,.int .i64 0]) (by simp[results,results126,go_sem,q _ _ _ e0 (by omega),q _ _ _ e1 (by omega),q _ _ _ e2 (by omega),q _ _ _ e3 (by omega),q _ _ _ e4 (by omega),q _ _ _ e5 (by omega),q _ _ _ e6 (by omega),q _ _ _ eb (by omega),q _ _ _ ee (by omega)]) ⟨rfl,nL sG.out (by omega) _⟩
theorem Np.amZ{n:List UInt8}{ty:Int} : (Np.aG n&&(decide (1<=ty)&&decide (ty<=8)))=true↔Np.QOk n ty:=by
 unfold Np.QOk;simp only[Bool.and_eq_true,Qa]
theorem Yq(n:ByteArray)(hn:n.size<=140737488355328)(ty:Int)(w:World):Calls prog 57 #[.agg #[.string n,.int .i64 ty]] w λe w'=>e = .returned (.bool (Np.yes (Np.QOk n.data.toList ty)))/\Below w.heap.size w w':=by
 obtain⟨r,hr⟩:∃ r,(Np.aG n.data.toList&&(decide (1<=ty)&&decide (ty<=8)))=r:=⟨_,rfl⟩;have qX:=jq hr;have Up:Hid (Np.yes (Np.QOk n.data.toList ty)=r):=jq (by rw[Bool.eq_iff_iff,Np.fm,<-hr,Np.amZ]);rw[Up.out];clear hr;obtain⟨w1,aj⟩:∃ w1,w.alloc (.cells #[.string n,.int .i64 ty] 31)=w1:=⟨_,rfl⟩;have hb:Below w.heap.size w w1:=by rw[<-aj];exact (vQ _ _).alloc (bQ _) _
 have k0:w1.cell? ⟨w.heap.size,0,none⟩=some (.string n):=by rw[<-aj];simp[go_sem]
 have k1:w1.cell? ⟨w.heap.size,1,none⟩=some (.int .i64 ty):=by rw[<-aj];simp[go_sem]
 have ay:=jq hb;clear hb;go_enter func57,ntmps57;go_wp2_with fail;clear aj;refine (U7 n hn ty w1).mono ?_;rw[qX.out];rintro e w2 ⟨rfl,hb⟩;have ak:=jq (ay.out.trans (hb.mono ay.out.size));have aM:=ak.out.size;clear hb k0 k1
 cases r with
 | false=>
  go_wp2_with fail;exact bodyPost_ret (v:=.bool false) (by simp[results,results57,go_sem]) rfl ⟨rfl,ak.out.alloc (by omega) _⟩
 | true=>
  go_wp2_with fail;exact bodyPost_ret (v:=.bool true) (by simp[results,results57,go_sem]) rfl ⟨rfl,ak.out.alloc (by omega) _⟩
end
end Go.Proofs.YtfnopgdcaanaiaaGreatDoor
