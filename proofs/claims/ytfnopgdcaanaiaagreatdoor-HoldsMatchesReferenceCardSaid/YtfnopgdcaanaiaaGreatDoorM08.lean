/- Parts of the proof. No condition. -/
import Derived.Test.YtfnopgdcaanaiaaGreatDoorM03
import Derived.Test.YtfnopgdcaanaiaaGreatDoorM04
set_option linter.all false
set_option maxRecDepth 100000
set_option maxHeartbeats 8000000
namespace Go.Proofs.YtfnopgdcaanaiaaGreatDoor
open Go.Proofs.Tryz
section
open Go.RowKit
theorem anK(a b:ByteArray)(n m p q:Int)(w:World):(binOp .neq 128 (.agg #[.string a,.int .i64 n,.int .i64 m]) (.agg #[.string b,.int .i64 p,.int .i64 q])).run prog w = .ok (.bool (!(a.toList == b.toList&&(n == p&&m == q)))) w:=by
 have u3:=underlying3;have a3:=isAgg3;have z3:=sizeOf3;have u9:=underlying9;have a9:=isAgg9;have z9:=sizeOf9;have hS:prog.underlying 128=some (.struct (prog.fieldsOf 128)):=by kernel_rfl
 have hp:prog.stoodInHeld 128=false:=by kernel_rfl
 rw[run_neq_struct,show (10000:Nat)=9999+1 from rfl,run_equalIn_agg w 9999 128 _ _ hS hp];simp only[Program.fieldsOf,underlying128];go_simp;by_cases h0:a.toList=b.toList <;> by_cases h1:n=p <;> by_cases h2:m=q <;> simp[h0,h1,h2]
theorem WU{d x:Np.Datum}{a b:ByteArray}(ha:a.data.toList=d.text)(hb:b.data.toList=x.text):(!(a.toList == b.toList&&(d.n == x.n&&d.m == x.m)))=decide (d≠x):=by
 rw[dQ,dQ,ha,hb,Bool.eq_iff_iff];simp only[Bool.not_eq_true',Bool.and_eq_false_iff,beq_eq_false_iff_ne,Qa];obtain⟨t,n,m⟩:=d;obtain⟨t2,n2,m2⟩:=x;simp only[ne_eq,Np.Datum.mk.injEq,not_and];constructor
 ·rintro (h | h | h) rfl rfl
  ·exact absurd rfl h
  ·exact absurd rfl h
  ·exact h
 ·intro h;by_cases h1:t=t2
  ·by_cases h2:n=n2
   ·exact .inr (.inr (h h1 h2))
   ·exact .inr (.inl h2)
  ·exact .inl h1
theorem WK{α:Type}{xs ys:List α}{k:Nat}(h1:k<xs.length)(h2:k<ys.length)(h:xs.take k=ys.take k)(he:xs[k]=ys[k]):xs.take (k+1)=ys.take (k+1):=by
 rw[fQ h1,fQ h2,h,he]
theorem WJ{α:Type}{xs ys:List α}{k:Nat}(hl:xs.length=ys.length)(hk:¬ k<xs.length)(h:xs.take k=ys.take k):xs=ys:=by
 rwa [kQ (by omega),kQ (by omega)] at h
theorem aJK(s1 s2:ByteArray)(t1 l1 t2 l2:Int)(v1 v2:Value)(d1 d2:List Np.Datum)(w:World)(gu:SlR bR 3 w w.heap.size v1 d1)(jr:SlR bR 3 w w.heap.size v2 d2) :
 Calls prog 63 #[.agg #[.string s1,.int .i64 t1,.int .i64 l1,v1],.agg #[.string s2,.int .i64 t2,.int .i64 l2,v2]] w
  λe w'=>e = .returned (.bool (decide (s1=s2/\t1=t2/\l1=l2/\d1=d2)))/\Below w.heap.size w w':=by
 obtain⟨r,hr⟩:=acJ (decide (s1=s2/\t1=t2/\l1=l2/\d1=d2));rw[hr];have HR:=jq hr;have oC:=jq gu;have el:=jq jr;obtain⟨A1,c1,rfl,bq,bM⟩:=ak gu;obtain⟨A2,c2,rfl,fI,eU⟩:=ak jr;have je:Below w.heap.size w ((w.alloc (.cells #[.string s1,.int .i64 t1,.int .i64 l1,.slice A1 d1.length c1] 26)).alloc (.cells #[.string s2,.int .i64 t2,.int .i64 l2,.slice A2 d2.length c2] 26)):=((vQ _ _).alloc (bQ _) _).alloc (by simp) _;have aY:=jq je;clear hr gu jr je;have xk:∀ x y:Int,(x != y)=decide (x≠y):=λx y=>by by_cases h:x=y <;> simp[h]
 by_cases h1:s1=s2
 case neg=>
  have h1':¬ s1.toList=s2.toList:=λe=>h1 (j9 (by rw[<-dQ,<-dQ];exact e));have HF:=jq (show r=false by rw[<-HR.out];simp[h1]);clear h1 xk;go_enter func63,ntmps63;go_wp2_with fail;go_ret;exact⟨ag HF.out.symm,aY.out⟩
 case pos=>
  subst h1;by_cases h2:t1=t2
  case neg=>
   have h2':(t1 != t2)=true:=by simpa using h2
   have HF:=jq (show r=false by rw[<-HR.out];simp[h2]);clear h2 xk;go_enter func63,ntmps63;go_wp2_with fail;go_ret;exact⟨ag HF.out.symm,aY.out⟩
  case pos=>
   subst h2;by_cases h3:l1=l2
   case neg=>
    have h3':(l1 != l2)=true:=by simpa using h3
    have HF:=jq (show r=false by rw[<-HR.out];simp[h3]);clear h3 xk;go_enter func63,ntmps63;go_wp2_with fail;go_ret;exact⟨ag HF.out.symm,aY.out⟩
   case pos=>
    subst h3;by_cases h4:d1.length=d2.length
    case neg=>
     have h4':((d1.length:Int) != (d2.length:Int))=true:=by rw[xk];simp;omega
     have HF:=jq (show r=false by rw[<-HR.out];simp;intro e;exact h4 (by rw[e]));clear h4 xk;go_enter func63,ntmps63;go_wp2_with fail;go_ret;exact⟨ag HF.out.symm,aY.out⟩
    case pos=>
     have h4':((d1.length:Int) != (d2.length:Int))=false:=by rw[xk];simp;omega
     have HL:=jq h4;clear h4 xk;go_enter func63,ntmps63;go_wp2_with fail;have am:((w.alloc (.cells #[.string s1,.int .i64 t1,.int .i64 l1,.slice A1 d1.length c1] 26)).alloc (.cells #[.string s1,.int .i64 t1,.int .i64 l1,.slice A2 d2.length c2] 26)).heap.size=w.heap.size+1+1:=by simp
     have q1:((w.alloc (.cells #[.string s1,.int .i64 t1,.int .i64 l1,.slice A1 d1.length c1] 26)).alloc (.cells #[.string s1,.int .i64 t1,.int .i64 l1,.slice A2 d2.length c2] 26)).cell? ⟨w.heap.size,3,none⟩=some (.slice A1 d1.length c1):=by simp[go_sem]
     have q2:((w.alloc (.cells #[.string s1,.int .i64 t1,.int .i64 l1,.slice A1 d1.length c1] 26)).alloc (.cells #[.string s1,.int .i64 t1,.int .i64 l1,.slice A2 d2.length c2] 26)).cell? ⟨w.heap.size+1,3,none⟩=some (.slice A2 d2.length c2):=by simp[go_sem]
     generalize tc:((w.alloc (.cells #[.string s1,.int .i64 t1,.int .i64 l1,.slice A1 d1.length c1] 26)).alloc (.cells #[.string s1,.int .i64 t1,.int .i64 l1,.slice A2 d2.length c2] 26))=wa at *;have HQ:=jq (And.intro q1 (And.intro q2 am));clear tc q1 q2 am;go_loopw [5] (λi wr=>∃ k:Nat,k<=d1.length/\i = .int .i64 k/\Hid (d1.take k=d2.take k)/\Hid (Below wa.heap.size wa wr)) (λi _=>d1.length - (intOf i).toNat)
     case atStart=>exact⟨0,jQ _,rfl,jq rfl,jq (vQ _ _)⟩
     case round=>
      obtain⟨k,hk,rfl,HN,HB⟩:=hrel;have aI:=aY.out.trans (HB.out.mono aY.out.size);have sZ:=HQ.out;have g1:=aaJ HB.out sZ.1;have g2:=aaJ HB.out sZ.2.1;clear sZ;by_cases ab:k<d1.length
      ·have pb:k<d2.length:=by have:=HL.out;omega
       obtain⟨b,o,c',s,hv,bB,_,bK,_,e0,e1,e2⟩:=D7 oC.out (aQ ab);simp only[Value.slice.injEq,true_and] at hv;obtain⟨rfl,rfl⟩:=hv;obtain⟨b',o',c'',s',hv,uf,_,dW,_,f0,f1,f2⟩:=D7 el.out (aQ pb);simp only[Value.slice.injEq,true_and] at hv;obtain⟨rfl,rfl⟩:=hv;have HT:=jq (WK ab pb HN.out);have lZ:=jq (show d1[k]≠d2[k]->r=false from λhne=>by rw[<-HR.out];simp;intro e;subst e;exact hne rfl);generalize d1[k]=x at *;generalize d2[k]=y at *;replace e0:=(aI.cell (p:=⟨b,o+k * 3,none⟩) bB).trans e0;replace e1:=(aI.cell (p:=⟨b,o+k * 3+1,none⟩) bB).trans e1;replace e2:=(aI.cell (p:=⟨b,o+k * 3+2,none⟩) bB).trans e2;replace f0:=(aI.cell (p:=⟨b',o'+k * 3,none⟩) uf).trans f0;replace f1:=(aI.cell (p:=⟨b',o'+k * 3+1,none⟩) uf).trans f1;replace f2:=(aI.cell (p:=⟨b',o'+k * 3+2,none⟩) uf).trans f2;have bJ:(0:Int)<=(k:Int):=by omega
       have bI:(k:Int)<(d1.length:Int):=by omega
       have jN:(k:Int)<(d2.length:Int):=by omega
       have heq:=anK s s' x.n x.m y.n y.m;rw[WU bK dW] at heq;clear aI bK dW;by_cases hx:x=y
       ·have HX:=jq hx;have lj:decide (x≠y)=false:=by simpa using hx
        rw[lj] at heq;clear hx lj;go_wp2_with fail;go_quiet (fail);go_wp2_with fail;go_roundw
        case rel=>exact⟨k+1,by omega,by go_num,jq (HT.out HX.out),jq (below_drewN HB.out _)⟩
        case measure=>simp[intOf] <;> omega
       ·have HX:=jq hx;have lj:decide (x≠y)=true:=by simpa using hx
        rw[lj] at heq;clear hx lj;go_wp2_with fail;go_quiet (fail);go_wp2_with fail;go_ret;exact⟨ag (lZ.out HX.out).symm,below_drewN (aY.out.trans (HB.out.mono aY.out.size)) _⟩
      ·go_wp2_with fail;go_ret;refine⟨ag ?_,aY.out.trans (HB.out.mono aY.out.size)⟩;rw[<-HR.out]
       have:=WJ HL.out ab HN.out
       simp[this]
end
section
open Go.RowKit Go.MapKept
def pT(p:List UInt8×List UInt8):Value:=.agg #[aA p.1,aA p.2]
def jn(r:Nat)(kvs:List ((List UInt8×List UInt8)×Value))(w:World):Prop:=∃ es,w.heap[r]?=some (.map es es.size)/\es.toList.map (λe=>(e.key,e.val))=kvs.map (λp=>(pT p.1,p.2))/\∀ (i:Nat) (e:MapEntry),es[i]?=some e->e.born=i
theorem jn.lt{r:Nat}{kvs:List ((List UInt8×List UInt8)×Value)}{w:World}(h:jn r kvs w):r<w.heap.size:=by
 obtain⟨es,h,_⟩:=h;exact (eQ.1 h).1
theorem jn.keep{r:Nat}{kvs:List ((List UInt8×List UInt8)×Value)}{w w':World}{n:Nat}(h:jn r kvs w)(hb:Below n w w')(hn:r<n):jn r kvs w':=by
 obtain⟨es,h,h2⟩:=h;exact⟨es,(hb.block r hn).trans h,h2⟩
theorem jn.keep'{r:Nat}{kvs:List ((List UInt8×List UInt8)×Value)}{w w':World}(h:jn r kvs w)(hb:w'.heap[r]?=w.heap[r]?):jn r kvs w':=by
 obtain⟨es,h,h2⟩:=h;exact⟨es,hb.trans h,h2⟩
theorem jn.made(w:World):jn w.heap.size [] (w.alloc (.map #[] 0)):=⟨#[],heap_alloc_new _ _,rfl,λi e h=>by simp at h⟩
theorem Xg(p q:List UInt8×List UInt8)(w:World):(Op.equal 138 (pT p) (pT q)).run prog w = .ok (decide (p=q)) w:=by
 obtain⟨a,n⟩:=p;obtain⟨b,m⟩:=q;have u3:=underlying3;have a3:=isAgg3;have z3:=sizeOf3;have u9:=underlying9;have a9:=isAgg9;have z9:=sizeOf9;have hS:prog.underlying 138=some (.struct (prog.fieldsOf 138)):=by kernel_rfl
 have hp:prog.stoodInHeld 138=false:=by kernel_rfl
 show (Op.equalIn 10000 138 (.agg #[.string ⟨a.toArray⟩,.string ⟨n.toArray⟩]) (.agg #[.string ⟨b.toArray⟩,.string ⟨m.toArray⟩])).run prog w=_;rw[show (10000:Nat)=9999+1 from rfl,run_equalIn_agg w 9999 138 _ _ hS hp];simp only[Program.fieldsOf,underlying138];go_simp;by_cases h0:a=b <;> by_cases h1:n=m <;> simp[h0,h1]
theorem N5(b:Bool)(p:List UInt8×List UInt8)(w:World):(Instr.checkKey b 10000 138 (pT p)).run prog w = .ok () w:=by
 have hS:=underlying138;have hs:∀ s w,(Instr.checkKey b 9999 9 (.string s)).run prog w = .ok () w:=λs w=>MapKept.run_checkKey (k:=.string s) underlying9 (by simp[MapKept.IsKey]) b 9998;have hi:∀ n w,(Instr.checkKey b 9999 3 (.int .i64 n)).run prog w = .ok () w:=λn w=>MapKept.run_checkKey (k:=.int .i64 n) underlying3 (by simp[MapKept.IsKey]) b 9998;have a3:=isAgg3;have z3:=sizeOf3;have a9:=isAgg9;have z9:=sizeOf9;rw[show (10000:Nat)=9999+1 from rfl,Instr.checkKey];simp only[pT,aA];simp[run_underlying hS,go_sem,Result.andThen,hs,hi]
theorem Xs{fs:Array Field}{k:Value}{e:MapEntry}{es:List MapEntry}(i:Nat):Instr.findNow (.struct fs) k (e::es) i=none:=by
 simp only[Instr.findNow];rfl
theorem NT(p:List UInt8×List UInt8)(w:World):∀ (es:List MapEntry) (kvs:List ((List UInt8×List UInt8)×Value)) (i:Nat),es.map (λe=>(e.key,e.val))=kvs.map (λq=>(pT q.1,q.2))->
 (∀ v,kvs.lookup p=some v->∃ j,(es[j]?).map (λe=>(e.key,e.val))=some (pT p,v)/\kvs[j]?=some (p,v)/\(Instr.findAsking 138 (pT p) es i).run prog w = .ok (some (i+j,v)) w)/\(kvs.lookup p=none->(Instr.findAsking 138 (pT p) es i).run prog w = .ok none w)
 | [],kvs,i,h=>by
   cases kvs with
   | nil=>exact⟨λv h=>by simp at h,λ_=>by rw[Instr.findAsking];rfl⟩
   | cons=>simp at h
 | e::es,kvs,i,h=>by
   cases kvs with
   | nil=>simp at h
   | cons q kvs=>
    obtain⟨q,u⟩:=q;simp only[List.map_cons,List.cons.injEq,Prod.mk.injEq] at h;obtain⟨⟨h1,h2⟩,h3⟩:=h;obtain⟨i1,i2⟩:=NT p w es kvs (i+1) h3;have hq:=Xg p q w;rw[<-h1] at hq;by_cases jS:p=q
    ·have hd:decide (p=q)=true:=by simpa using jS
     rw[hd] at hq;have hr:(Instr.findAsking 138 (pT p) (e::es) i).run prog w = .ok (some (i,u)) w:=by
      rw[Instr.findAsking];simp[hq,h2]
     subst jS;refine⟨λv hv=>⟨0,?_,?_,?_⟩,λhn=>?_⟩
     ·rw[List.lookup_cons_self] at hv;cases hv;simp[h1,h2]
     ·rw[List.lookup_cons_self] at hv;cases hv;rfl
     ·rw[List.lookup_cons_self] at hv;cases hv;exact hr
     ·rw[List.lookup_cons_self] at hn;cases hn
    ·have hd:decide (p=q)=false:=by simpa using jS
     rw[hd] at hq;have hb:(p == q)=false:=by simpa using jS
     have hr:(Instr.findAsking 138 (pT p) (e::es) i).run prog w=(Instr.findAsking 138 (pT p) es (i+1)).run prog w:=by
      rw[Instr.findAsking];simp[hq]
     have hl:((q,u)::kvs).lookup p=kvs.lookup p:=by rw[List.lookup_cons,hb]
     rw[hr,hl];refine⟨λv hv=>?_,i2⟩;obtain⟨j,j1,j2,j3⟩:=i1 v hv;exact⟨j+1,by simpa using j1,by simpa using j2,by rw[show i+(j+1)=i+1+j by omega];exact j3⟩
theorem OI(p:List UInt8×List UInt8)(w:World)(es:List MapEntry)(kvs:List ((List UInt8×List UInt8)×Value))(h:es.map (λe=>(e.key,e.val))=kvs.map (λq=>(pT q.1,q.2))) :
 (∀ v,kvs.lookup p=some v->∃ j,(es[j]?).map (λe=>(e.key,e.val))=some (pT p,v)/\kvs[j]?=some (p,v)/\(Instr.findKey 138 (pT p) es).run prog w = .ok (some (j,v)) w)/\(kvs.lookup p=none->(Instr.findKey 138 (pT p) es).run prog w = .ok none w):=by
 have hS:=underlying138
 cases es with
 | nil=>
  cases kvs with
  | nil=>exact⟨λv h=>by simp at h,λ_=>by simp[Instr.findKey,run_underlying hS,Instr.findNow]⟩
  | cons=>simp at h
 | cons e es=>
  obtain⟨i1,i2⟩:=NT p w (e::es) kvs 0 h;have hr:(Instr.findKey 138 (pT p) (e::es)).run prog w=(Instr.findAsking 138 (pT p) (e::es) 0).run prog w:=by
   simp[Instr.findKey,run_underlying hS,Xs]
  rw[hr];refine⟨λv hv=>?_,i2⟩;obtain⟨j,j1,j2,j3⟩:=i1 v hv;exact⟨j,j1,j2,by rw[j3,Nat.zero_add]⟩
theorem aHX(w:World)(t et:TypeId)(ht:prog.underlying t=some (.map 138 et))(r:Nat)(kvs:List ((List UInt8×List UInt8)×Value))(hr:jn r kvs w)(p:List UInt8×List UInt8)(z:Value)(hz:(zeroValue et).run prog w = .ok z w) :
 (Instr.lookup t (.map (some r)) (pT p) false).run prog w = .ok ((kvs.lookup p).getD z) w:=by
 obtain⟨es,hr,he,_⟩:=hr;have hf:=OI p w es.toList kvs he;have hc:∀ b,(Instr.checkKey b 10000 138 (pT p)).run prog w = .ok () w:=λb=>N5 b p w
 cases hl:kvs.lookup p with
 | none=>simp[Instr.lookup,run_underlying ht,MapKept.run_getObj_map hr,hc,hf.2 hl,Result.andThen,hz]
 | some v=>
  obtain⟨j,_,_,hj⟩:=hf.1 v hl;simp[Instr.lookup,run_underlying ht,MapKept.run_getObj_map hr,hc,hj,Result.andThen]
theorem V4(a:ByteArray):(a == a)=true:=by
 show (a.data == a.data)=true;simp
theorem aNQ(p:List UInt8×List UInt8)(w:World):(Instr.keyThatStays (pT p) (pT p)).run prog w = .ok (pT p) w:=by
 have hs:Instr.sameBits 10000 (pT p) (pT p)=true:=by
  show Instr.sameBits (9999+1) (pT p) (pT p)=true;simp only[pT,aA,Instr.sameBits];simp[Instr.sameBits,V4]
 simp[Instr.keyThatStays,hs]
theorem aIK(w:World)(t et:TypeId)(ht:prog.underlying t=some (.map 138 et))(r:Nat)(kvs:List ((List UInt8×List UInt8)×Value))(hr:jn r kvs w)(p:List UInt8×List UInt8)(val:Value)(hl:kvs.lookup p=none\/kvs.lookup p=some val) :
 ∃ w',(Instr.mapUpdate t (.map (some r)) (pT p) val).run prog w = .ok () w'/\jn r (if kvs.lookup p=none then kvs ++ [(p,val)] else kvs) w'/\Turned r w w':=by
 obtain⟨es,hr,he,iO⟩:=hr;have hf:=OI p w es.toList kvs he;have hc:(Instr.checkKey false 10000 138 (pT p)).run prog w = .ok () w:=N5 false p w;have ab:r<w.heap.size:=(eQ.1 hr).1;rcases hl with hl | hl
 ·rw[Qb hl];refine⟨{ w with heap:=w.heap.setIfInBounds r (.map (es.push { key:=pT p,val:=val,born:=es.size }) (es.size+1)) },by simp[Instr.mapUpdate,run_underlying ht,MapKept.run_getObj_map hr,hc,hf.2 hl,MapKept.run_setObj_map _ hr,Result.andThen],⟨es.push { key:=pT p,val:=val,born:=es.size },by simp[ab],by simp[he],λi e hi=>?_⟩,⟨rfl,rfl,rfl,by simp,λi hi=>by simp[Ne.symm hi]⟩⟩;rw[Array.getElem?_push] at hi;split at hi
  ·rename_i h1;cases hi;exact h1.symm
  ·exact iO i e hi
 ·have hn:¬ kvs.lookup p=none:=by rw[hl];exact λh=>nomatch h
  rw[Qc hn];obtain⟨j,j1,j2,j3⟩:=hf.1 val hl;have j0:∃ e,es[j]?=some e/\e.key=pT p/\e.val=val:=by
   rw[Array.getElem?_toList] at j1
   cases h0:es[j]? with
   | none=>rw[h0] at j1;simp at j1
   | some e=>rw[h0] at j1;simp only[Option.map_some,Option.some.injEq,Prod.mk.injEq] at j1;exact⟨e,rfl,j1.1,j1.2⟩
  obtain⟨e0,e1,e2,e3⟩:=j0;have kA:(Instr.keyThatStays (((es[j]?).map (·.key)).getD (pT p)) (pT p)).run prog w = .ok (pT p) w:=by
   rw[e1];simp only[Option.map_some,Option.getD_some];rw[e2];exact aNQ p w
  have ut:(es.modify j λe=>{ e with key:=pT p,val:=val })=es:=by
   apply Array.ext_getElem?;intro i;rw[Array.getElem?_modify];by_cases dj:j=i
   ·subst dj;rw[Qb rfl,e1]
    cases e0
    subst e2;subst e3;rfl
   ·rw[Qc dj]
  refine⟨w,?_,⟨es,hr,he,iO⟩,⟨rfl,rfl,rfl,rfl,λi hi=>rfl⟩⟩;have ph:w.heap.setIfInBounds r (.map es es.size)=w.heap:=by
   apply Array.ext_getElem?;intro i;rw[Array.getElem?_setIfInBounds];by_cases Ce:r=i
   ·subst Ce;rw[Qb rfl,Qb ab,hr]
   ·rw[Qc Ce]
  simp[Instr.mapUpdate,run_underlying ht,MapKept.run_getObj_map hr,hc,j3,kA,ut,MapKept.run_setObj_map _ hr,ph,Result.andThen]
end
end Go.Proofs.YtfnopgdcaanaiaaGreatDoor
