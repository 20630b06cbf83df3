/- Parts of the proof. No condition. -/
import Derived.Maps.Own
import Derived.WideMake
import Derived.Laws.StructEq
import Derived.Test.YtfnopgdcaanaiaaGreatDoorH06
set_option linter.all false
set_option maxRecDepth 100000
set_option maxHeartbeats 8000000
namespace Go.Proofs.YtfnopgdcaanaiaaGreatDoor
open Go.Proofs.Tryz
section
open Go.RowKit Go.MapKept
def cA(r:Nat)(kvs:List (List UInt8×Value))(w:World):Prop:=∃ es c,w.heap[r]?=some (.map es c)/\es.toList.map (λe=>(e.key,e.val))=kvs.map λp=>(aB p.1,p.2)
theorem cA.lt{r:Nat}{kvs:List (List UInt8×Value)}{w:World}(h:cA r kvs w):r<w.heap.size:=by
 obtain⟨es,c,h,_⟩:=h;exact (eQ.1 h).1
theorem cA.keep{r:Nat}{kvs:List (List UInt8×Value)}{w w':World}{n:Nat}(h:cA r kvs w)(hb:Below n w w')(hn:r<n):cA r kvs w':=by
 obtain⟨es,c,h,h2⟩:=h;exact⟨es,c,(hb.block r hn).trans h,h2⟩
theorem cA.made(w:World):cA w.heap.size [] (w.alloc (.map #[] 0)):=⟨#[],0,heap_alloc_new _ _,rfl⟩
theorem NS(x y:List UInt8):((⟨x.toArray⟩:ByteArray) == ⟨y.toArray⟩)=(x == y):=by
 have h:((⟨x.toArray⟩:ByteArray) == ⟨y.toArray⟩)=(x.toArray == y.toArray):=rfl;rw[h,List.beq_toArray]
theorem AV(x:List UInt8):∀ (es:List MapEntry) (kvs:List (List UInt8×Value)) (i:Nat),es.map (λe=>(e.key,e.val))=kvs.map (λp=>(aB p.1,p.2))->
 (∀ v,kvs.lookup x=some v->∃ j,Instr.findNow .string (aB x) es i=some (some (j,v)))/\(kvs.lookup x=none->Instr.findNow .string (aB x) es i=some none):=by
 intro es
 induction es with
 | nil=>
  intro kvs i h
  cases kvs with
  | nil=>exact⟨λv hv=>by simp at hv,λ_=>rfl⟩
  | cons=>simp at h
 | cons e es ih=>
  intro kvs i h
  cases kvs with
  | nil=>simp at h
  | cons p kvs=>
   obtain⟨y,u⟩:=p;simp only[List.map_cons,List.cons.injEq,Prod.mk.injEq] at h;obtain⟨⟨h1,h2⟩,h3⟩:=h;have hs:Instr.sameNow .string (aB x) e.key=some (x == y):=by rw[h1];simp only[Instr.sameNow];rw[NS]
   by_cases bR:x=y
   ·subst bR;have hb:(x == x)=true:=by simp
    rw[hb] at hs;refine⟨λv hv=>⟨i,?_⟩,λhv=>?_⟩
    ·rw[List.lookup_cons_self] at hv;simp only[Instr.findNow,hs]
     cases hv
     rw[h2]
    ·rw[List.lookup_cons_self] at hv;cases hv
   ·have hb:(x == y)=false:=by simpa using bR
    rw[hb] at hs;have hl:((y,u)::kvs).lookup x=kvs.lookup x:=by rw[List.lookup_cons,hb]
    rw[hl];obtain⟨i1,i2⟩:=ih kvs (i+1) h3;refine⟨λv hv=>?_,λhv=>?_⟩
    ·obtain⟨j,hj⟩:=i1 v hv;exact⟨j,by simp only[Instr.findNow,hs];exact hj⟩
    ·simp only[Instr.findNow,hs];exact i2 hv
section
variable {P:Program} {ops:Array Oper} {rest:List Oper} {o:Oper} {a:Act} {Q:Exit->Act->World->Prop}
theorem Oq(w:World)(hg:o.guard=none)(m x v:Operand)(t:TypeId)(iV:o.op=Op.mapUpdate t m x v)(kt et:TypeId)(ht:P.underlying t=some (.map kt et))(hk:P.underlying kt=some .string)
 (r:Nat) (kvs:List (List UInt8×Value)) (hm:a.eval m = .map (some r)) (hr:cA r kvs w) (key:List UInt8) (hx:a.eval x=aB key) (val:Value) (hv:a.eval v=val) (fN:kvs.lookup key=none)
 (hK:∀ w',cA r (kvs ++ [(key,val)]) w'->Turned r w w'->wpList P ops Q rest (a.put o.dst undef) w'):wpList P ops Q (o::rest) a w:=by
 obtain⟨es,c,hr,he⟩:=hr;have hf:=(AV key es.toList kvs 0 he).2 fN;refine wpList_plain hg λK' hK'=>?_;have hc:(Instr.checkKey false 10000 kt (aB key)).run P w = .ok () w:=MapKept.run_checkKey (k:=aB key) hk (by simp[MapKept.IsKey]) false 9999;have cI:(Instr.mapUpdate t (.map (some r)) (aB key) val).run P w = .ok () { w with heap:=w.heap.setIfInBounds r (.map (es.push { key:=aB key,val:=val,born:=c }) (c+1)) }:=by
  simp[Instr.mapUpdate,run_underlying ht,MapKept.run_getObj_map hr,hc,MapKept.run_findKey hk hf,MapKept.run_setObj_map _ hr,Result.andThen]
 unfold Oper.wp;simp[execOp,iV,hm,hx,hv,cI,Result.andThen];have hl:r<w.heap.size:=(eQ.1 hr).1;refine hK' _ _ (hK _ ⟨_,_,by simp[hl];exact⟨rfl,rfl⟩,by simp[he]⟩ ⟨rfl,rfl,rfl,by simp,λi hi=>by simp[Ne.symm hi]⟩)
theorem Cy(w:World)(t kt et:TypeId)(ht:P.underlying t=some (.map kt et))(hk:P.underlying kt=some .string)(r:Nat)(kvs:List (List UInt8×Value))(hr:cA r kvs w)(key:List UInt8)(z:Value)(hz:(zeroValue et).run P w = .ok z w) :
 (Instr.lookup t (.map (some r)) (aB key) false).run P w = .ok ((kvs.lookup key).getD z) w:=by
 obtain⟨es,c,hr,he⟩:=hr;have hf:=AV key es.toList kvs 0 he;have hc:∀ b,(Instr.checkKey b 10000 kt (aB key)).run P w = .ok () w:=λb=>MapKept.run_checkKey (k:=aB key) hk (by simp[MapKept.IsKey]) b 9999
 cases hl:kvs.lookup key with
 | none=>simp[Instr.lookup,run_underlying ht,MapKept.run_getObj_map hr,hc,MapKept.run_findKey hk (hf.2 hl),Result.andThen,hz]
 | some v=>
  obtain⟨j,hj⟩:=hf.1 v hl;simp[Instr.lookup,run_underlying ht,MapKept.run_getObj_map hr,hc,MapKept.run_findKey hk hj,Result.andThen]
end
def lH(r:Nat)(kvs:List (Int×Value))(w:World):Prop:=∃ es c,w.heap[r]?=some (.map es c)/\es.toList.map (λe=>(e.key,e.val))=kvs.map λp=>(Value.int .i64 p.1,p.2)
theorem lH.lt{r:Nat}{kvs:List (Int×Value)}{w:World}(h:lH r kvs w):r<w.heap.size:=by
 obtain⟨es,c,h,_⟩:=h;exact (eQ.1 h).1
theorem lH.keep{r:Nat}{kvs:List (Int×Value)}{w w':World}{n:Nat}(h:lH r kvs w)(hb:Below n w w')(hn:r<n):lH r kvs w':=by
 obtain⟨es,c,h,h2⟩:=h;exact⟨es,c,(hb.block r hn).trans h,h2⟩
theorem lH.made(w:World):lH w.heap.size [] (w.alloc (.map #[] 0)):=⟨#[],0,heap_alloc_new _ _,rfl⟩
theorem JV(x:Int):∀ (es:List MapEntry) (kvs:List (Int×Value)) (i:Nat),es.map (λe=>(e.key,e.val))=kvs.map (λp=>(Value.int .i64 p.1,p.2))->
 (∀ v,kvs.lookup x=some v->∃ j,Instr.findNow (.int .i64) (.int .i64 x) es i=some (some (j,v)))/\(kvs.lookup x=none->Instr.findNow (.int .i64) (.int .i64 x) es i=some none):=by
 intro es
 induction es with
 | nil=>
  intro kvs i h
  cases kvs with
  | nil=>exact⟨λv hv=>by simp at hv,λ_=>rfl⟩
  | cons=>simp at h
 | cons e es ih=>
  intro kvs i h
  cases kvs with
  | nil=>simp at h
  | cons p kvs=>
   obtain⟨y,u⟩:=p;simp only[List.map_cons,List.cons.injEq,Prod.mk.injEq] at h;obtain⟨⟨h1,h2⟩,h3⟩:=h;have hs:Instr.sameNow (.int .i64) (.int .i64 x) e.key=some (x == y):=by rw[h1];simp[Instr.sameNow]
   by_cases bR:x=y
   ·subst bR;have hb:(x == x)=true:=by simp
    rw[hb] at hs;refine⟨λv hv=>⟨i,?_⟩,λhv=>?_⟩
    ·rw[List.lookup_cons_self] at hv;simp only[Instr.findNow,hs]
     cases hv
     rw[h2]
    ·rw[List.lookup_cons_self] at hv;cases hv
   ·have hb:(x == y)=false:=by simpa using bR
    rw[hb] at hs;have hl:((y,u)::kvs).lookup x=kvs.lookup x:=by rw[List.lookup_cons,hb]
    rw[hl];obtain⟨i1,i2⟩:=ih kvs (i+1) h3;refine⟨λv hv=>?_,λhv=>?_⟩
    ·obtain⟨j,hj⟩:=i1 v hv;exact⟨j,by simp only[Instr.findNow,hs];exact hj⟩
    ·simp only[Instr.findNow,hs];exact i2 hv
section
variable {P:Program} {ops:Array Oper} {rest:List Oper} {o:Oper} {a:Act} {Q:Exit->Act->World->Prop}
theorem Z5(w:World)(hg:o.guard=none)(m x v:Operand)(t:TypeId)(iV:o.op=Op.mapUpdate t m x v)(kt et:TypeId)(ht:P.underlying t=some (.map kt et))(hk:P.underlying kt=some (.int .i64))
 (r:Nat) (kvs:List (Int×Value)) (hm:a.eval m = .map (some r)) (hr:lH r kvs w) (key:Int) (hx:a.eval x = .int .i64 key) (val:Value) (hv:a.eval v=val) (fN:kvs.lookup key=none)
 (hK:∀ w',lH r (kvs ++ [(key,val)]) w'->Turned r w w'->wpList P ops Q rest (a.put o.dst undef) w'):wpList P ops Q (o::rest) a w:=by
 obtain⟨es,c,hr,he⟩:=hr;have hf:=(JV key es.toList kvs 0 he).2 fN;refine wpList_plain hg λK' hK'=>?_;have hc:(Instr.checkKey false 10000 kt (.int .i64 key)).run P w = .ok () w:=MapKept.run_checkKey (k:=.int .i64 key) hk (by simp[MapKept.IsKey]) false 9999;have cI:(Instr.mapUpdate t (.map (some r)) (.int .i64 key) val).run P w = .ok () { w with heap:=w.heap.setIfInBounds r (.map (es.push { key:=.int .i64 key,val:=val,born:=c }) (c+1)) }:=by
  simp[Instr.mapUpdate,run_underlying ht,MapKept.run_getObj_map hr,hc,MapKept.run_findKey hk hf,MapKept.run_setObj_map _ hr,Result.andThen]
 unfold Oper.wp;simp[execOp,iV,hm,hx,hv,cI,Result.andThen];have hl:r<w.heap.size:=(eQ.1 hr).1;refine hK' _ _ (hK _ ⟨_,_,by simp[hl];exact⟨rfl,rfl⟩,by simp[he]⟩ ⟨rfl,rfl,rfl,by simp,λi hi=>by simp[Ne.symm hi]⟩)
theorem YC(w:World)(t kt et:TypeId)(ht:P.underlying t=some (.map kt et))(hk:P.underlying kt=some (.int .i64))(r:Nat)(kvs:List (Int×Value))(hr:lH r kvs w)(key:Int)(z:Value)(hz:(zeroValue et).run P w = .ok z w) :
 (Instr.lookup t (.map (some r)) (.int .i64 key) false).run P w = .ok ((kvs.lookup key).getD z) w:=by
 obtain⟨es,c,hr,he⟩:=hr;have hf:=JV key es.toList kvs 0 he;have hc:∀ b,(Instr.checkKey b 10000 kt (.int .i64 key)).run P w = .ok () w:=λb=>MapKept.run_checkKey (k:=.int .i64 key) hk (by simp[MapKept.IsKey]) b 9999
 cases hl:kvs.lookup key with
 | none=>simp[Instr.lookup,run_underlying ht,MapKept.run_getObj_map hr,hc,MapKept.run_findKey hk (hf.2 hl),Result.andThen,hz]
 | some v=>
  obtain⟨j,hj⟩:=hf.1 v hl;simp[Instr.lookup,run_underlying ht,MapKept.run_getObj_map hr,hc,MapKept.run_findKey hk hj,Result.andThen]
end
def pP(p:Int×List UInt8):Value:=.agg #[.int .i64 p.1,aB p.2]
def iF(r:Nat)(kvs:List ((Int×List UInt8)×Value))(w:World):Prop:=∃ es,w.heap[r]?=some (.map es es.size)/\es.toList.map (λe=>(e.key,e.val))=kvs.map (λp=>(pP p.1,p.2))/\∀ (i:Nat) (e:MapEntry),es[i]?=some e->e.born=i
theorem iF.lt{r:Nat}{kvs:List ((Int×List UInt8)×Value)}{w:World}(h:iF r kvs w):r<w.heap.size:=by
 obtain⟨es,h,_⟩:=h;exact (eQ.1 h).1
theorem iF.keep{r:Nat}{kvs:List ((Int×List UInt8)×Value)}{w w':World}{n:Nat}(h:iF r kvs w)(hb:Below n w w')(hn:r<n):iF r kvs w':=by
 obtain⟨es,h,h2⟩:=h;exact⟨es,(hb.block r hn).trans h,h2⟩
theorem iF.keep'{r:Nat}{kvs:List ((Int×List UInt8)×Value)}{w w':World}(h:iF r kvs w)(hb:w'.heap[r]?=w.heap[r]?):iF r kvs w':=by
 obtain⟨es,h,h2⟩:=h;exact⟨es,hb.trans h,h2⟩
theorem iF.made(w:World):iF w.heap.size [] (w.alloc (.map #[] 0)):=⟨#[],heap_alloc_new _ _,rfl,λi e h=>by simp at h⟩
theorem Sf(p q:Int×List UInt8)(w:World):(Op.equal 301 (pP p) (pP q)).run prog w = .ok (decide (p=q)) w:=by
 obtain⟨n,a⟩:=p;obtain⟨m,b⟩:=q;have u3:=underlying3;have a3:=isAgg3;have z3:=sizeOf3;have u9:=underlying9;have a9:=isAgg9;have z9:=sizeOf9;have hS:prog.underlying 301=some (.struct (prog.fieldsOf 301)):=by kernel_rfl
 have hp:prog.stoodInHeld 301=false:=by kernel_rfl
 show (Op.equalIn 10000 301 (.agg #[.int .i64 n,.string ⟨a.toArray⟩]) (.agg #[.int .i64 m,.string ⟨b.toArray⟩])).run prog w=_;rw[show (10000:Nat)=9999+1 from rfl,run_equalIn_agg w 9999 301 _ _ hS hp];simp only[Program.fieldsOf,underlying301];go_simp;by_cases h0:a=b <;> by_cases h1:n=m <;> simp[h0,h1]
theorem Jy(b:Bool)(p:Int×List UInt8)(w:World):(Instr.checkKey b 10000 301 (pP p)).run prog w = .ok () w:=by
 have hS:=underlying301;have hs:∀ s w,(Instr.checkKey b 9999 9 (.string s)).run prog w = .ok () w:=λs w=>MapKept.run_checkKey (k:=.string s) underlying9 (by simp[MapKept.IsKey]) b 9998;have hi:∀ n w,(Instr.checkKey b 9999 3 (.int .i64 n)).run prog w = .ok () w:=λn w=>MapKept.run_checkKey (k:=.int .i64 n) underlying3 (by simp[MapKept.IsKey]) b 9998;have a3:=isAgg3;have z3:=sizeOf3;have a9:=isAgg9;have z9:=sizeOf9;rw[show (10000:Nat)=9999+1 from rfl,Instr.checkKey];simp only[pP,aB];simp[run_underlying hS,go_sem,Result.andThen,hs,hi]
theorem Ss{fs:Array Field}{k:Value}{e:MapEntry}{es:List MapEntry}(i:Nat):Instr.findNow (.struct fs) k (e::es) i=none:=by
 simp only[Instr.findNow];rfl
theorem Jp(p:Int×List UInt8)(w:World):∀ (es:List MapEntry) (kvs:List ((Int×List UInt8)×Value)) (i:Nat),es.map (λe=>(e.key,e.val))=kvs.map (λq=>(pP q.1,q.2))->
 (∀ v,kvs.lookup p=some v->∃ j,(es[j]?).map (λe=>(e.key,e.val))=some (pP p,v)/\kvs[j]?=some (p,v)/\(Instr.findAsking 301 (pP p) es i).run prog w = .ok (some (i+j,v)) w)/\(kvs.lookup p=none->(Instr.findAsking 301 (pP p) es i).run prog w = .ok none w)
 | [],kvs,i,h=>by
   cases kvs with
   | nil=>exact⟨λv h=>by simp at h,λ_=>by rw[Instr.findAsking];rfl⟩
   | cons=>simp at h
 | e::es,kvs,i,h=>by
   cases kvs with
   | nil=>simp at h
   | cons q kvs=>
    obtain⟨q,u⟩:=q;simp only[List.map_cons,List.cons.injEq,Prod.mk.injEq] at h;obtain⟨⟨h1,h2⟩,h3⟩:=h;obtain⟨i1,i2⟩:=Jp p w es kvs (i+1) h3;have hq:=Sf p q w;rw[<-h1] at hq;by_cases pN:p=q
    ·have hd:decide (p=q)=true:=by simpa using pN
     rw[hd] at hq;have hr:(Instr.findAsking 301 (pP p) (e::es) i).run prog w = .ok (some (i,u)) w:=by
      rw[Instr.findAsking];simp[hq,h2]
     subst pN;refine⟨λv hv=>⟨0,?_,?_,?_⟩,λhn=>?_⟩
     ·rw[List.lookup_cons_self] at hv;cases hv;simp[h1,h2]
     ·rw[List.lookup_cons_self] at hv;cases hv;rfl
     ·rw[List.lookup_cons_self] at hv;cases hv;exact hr
     ·rw[List.lookup_cons_self] at hn;cases hn
    ·have hd:decide (p=q)=false:=by simpa using pN
     rw[hd] at hq;have hb:(p == q)=false:=by simpa using pN
     have hr:(Instr.findAsking 301 (pP p) (e::es) i).run prog w=(Instr.findAsking 301 (pP p) es (i+1)).run prog w:=by
      rw[Instr.findAsking];simp[hq]
     have hl:((q,u)::kvs).lookup p=kvs.lookup p:=by rw[List.lookup_cons,hb]
     rw[hr,hl];refine⟨λv hv=>?_,i2⟩;obtain⟨j,j1,j2,j3⟩:=i1 v hv;exact⟨j+1,by simpa using j1,by simpa using j2,by rw[show i+(j+1)=i+1+j by omega];exact j3⟩
theorem JW(p:Int×List UInt8)(w:World)(es:List MapEntry)(kvs:List ((Int×List UInt8)×Value))(h:es.map (λe=>(e.key,e.val))=kvs.map (λq=>(pP q.1,q.2))) :
 (∀ v,kvs.lookup p=some v->∃ j,(es[j]?).map (λe=>(e.key,e.val))=some (pP p,v)/\kvs[j]?=some (p,v)/\(Instr.findKey 301 (pP p) es).run prog w = .ok (some (j,v)) w)/\(kvs.lookup p=none->(Instr.findKey 301 (pP p) es).run prog w = .ok none w):=by
 have hS:=underlying301
 cases es with
 | nil=>
  cases kvs with
  | nil=>exact⟨λv h=>by simp at h,λ_=>by simp[Instr.findKey,run_underlying hS,Instr.findNow]⟩
  | cons=>simp at h
 | cons e es=>
  obtain⟨i1,i2⟩:=Jp p w (e::es) kvs 0 h;have hr:(Instr.findKey 301 (pP p) (e::es)).run prog w=(Instr.findAsking 301 (pP p) (e::es) 0).run prog w:=by
   simp[Instr.findKey,run_underlying hS,Ss]
  rw[hr];refine⟨λv hv=>?_,i2⟩;obtain⟨j,j1,j2,j3⟩:=i1 v hv;exact⟨j,j1,j2,by rw[j3,Nat.zero_add]⟩
theorem YB(w:World)(t et:TypeId)(ht:prog.underlying t=some (.map 301 et))(r:Nat)(kvs:List ((Int×List UInt8)×Value))(hr:iF r kvs w)(p:Int×List UInt8)(z:Value)(hz:(zeroValue et).run prog w = .ok z w) :
 (Instr.lookup t (.map (some r)) (pP p) false).run prog w = .ok ((kvs.lookup p).getD z) w:=by
 obtain⟨es,hr,he,_⟩:=hr;have hf:=JW p w es.toList kvs he;have hc:∀ b,(Instr.checkKey b 10000 301 (pP p)).run prog w = .ok () w:=λb=>Jy b p w
 cases hl:kvs.lookup p with
 | none=>simp[Instr.lookup,run_underlying ht,MapKept.run_getObj_map hr,hc,hf.2 hl,Result.andThen,hz]
 | some v=>
  obtain⟨j,_,_,hj⟩:=hf.1 v hl;simp[Instr.lookup,run_underlying ht,MapKept.run_getObj_map hr,hc,hj,Result.andThen]
theorem Z4{ops:Array Oper}{rest:List Oper}{o:Oper}{a:Act}{Q:Exit->Act->World->Prop}(w:World)(hg:o.guard=none)(m x v:Operand)(t:TypeId)(iV:o.op=Op.mapUpdate t m x v)(et:TypeId)(ht:prog.underlying t=some (.map 301 et))
 (r:Nat) (kvs:List ((Int×List UInt8)×Value)) (hm:a.eval m = .map (some r)) (hr:iF r kvs w) (p:Int×List UInt8) (hx:a.eval x=pP p) (val:Value) (hv:a.eval v=val) (fN:kvs.lookup p=none)
 (hK:∀ w',iF r (kvs ++ [(p,val)]) w'->Turned r w w'->wpList prog ops Q rest (a.put o.dst undef) w'):wpList prog ops Q (o::rest) a w:=by
 obtain⟨es,hr,he,jW⟩:=hr;have hf:=(JW p w es.toList kvs he).2 fN;refine wpList_plain hg λK' hK'=>?_;have hc:(Instr.checkKey false 10000 301 (pP p)).run prog w = .ok () w:=Jy false p w;have cI:(Instr.mapUpdate t (.map (some r)) (pP p) val).run prog w = .ok () { w with heap:=w.heap.setIfInBounds r (.map (es.push { key:=pP p,val:=val,born:=es.size }) (es.size+1)) }:=by
  simp[Instr.mapUpdate,run_underlying ht,MapKept.run_getObj_map hr,hc,hf,MapKept.run_setObj_map _ hr,Result.andThen]
 unfold Oper.wp;simp[execOp,iV,hm,hx,hv,cI,Result.andThen];have hl:r<w.heap.size:=(eQ.1 hr).1;refine hK' _ _ (hK _ ⟨es.push { key:=pP p,val:=val,born:=es.size },by simp[hl],by simp[he],λi e hi=>?_⟩ ⟨rfl,rfl,rfl,by simp,λi hi=>by simp[Ne.symm hi]⟩);rw[Array.getElem?_push] at hi;split at hi
 ·rename_i h1;cases hi;exact h1.symm
 ·exact jW i e hi
end
namespace Np
def bY(a:List UInt8)(l:List Signed):List (List UInt8):=(l.filter λx=>decide (x.set.type=2)&&!(x.set.name == a)).map (·.set.name)
theorem R0(a:List UInt8)(l:List Signed)(x:Signed):bY a (l ++ [x])=if x.set.type=2/\x.set.name≠a then bY a l ++ [x.set.name] else bY a l:=by
 unfold bY;rw[List.filter_append];by_cases h1:x.set.type=2 <;> by_cases h2:x.set.name=a <;> simp[h1,h2]
theorem zh{a:List UInt8}{l:List Signed}{c:List UInt8} : c∈bY a l↔bZ ⟨a,l⟩ c=true:=by
 unfold bY;rw[Ev,List.mem_map];constructor
 ·rintro⟨x,hx,rfl⟩;obtain⟨h1,h2⟩:=List.mem_filter.1 hx;simp only[Bool.and_eq_true,Qa,Bool.not_eq_true',beq_eq_false_iff_ne] at h2;exact⟨x,h1,h2.1,h2.2,rfl⟩
 ·rintro⟨x,hx,h1,h2,rfl⟩;exact⟨x,List.mem_filter.2 ⟨hx,by simpa [h1] using h2⟩,rfl⟩
theorem JM{z:Zone}(h:InOrder z):(bY z.apex z.sets).Pairwise λa b=>aD a b<0:=by
 unfold bY;rw[List.pairwise_map];have h1:(z.sets.filter λx=>decide (x.set.type=2)&&!(x.set.name == z.apex)).Pairwise λa b=>fW a.set b.set<0:=by
  have:=h.order
  rw[List.pairwise_map] at this;exact this.sublist List.filter_sublist
 refine h1.imp_of_mem λ{a b} ha hb aa=>?_;obtain⟨_,ha⟩:=List.mem_filter.1 ha;obtain⟨_,hb⟩:=List.mem_filter.1 hb;simp only[Bool.and_eq_true,Qa] at ha hb;rcases Int.lt_or_eq_of_le (JA aa) with h2 | h2
 ·exact h2
 ·have:=JB aa (er.zero _ _ h2)
  omega
def mA(out:List (List UInt8))(c:List UInt8):List (List UInt8):=
 match out.getLast? with
 | none=>[c]
 | some h=>if bg c h=true then out else out ++ [c]
def dB(l:List (List UInt8)):List (List UInt8):=l.foldl mA []
theorem KI(l:List (List UInt8))(c:List UInt8):dB (l ++ [c])=mA (dB l) c:=by simp[dB]
structure xq(l out:List (List UInt8)):Prop where
 sub:out.Sublist l
 above:∀ c∈l,∃ h∈out,bg c h=true
 top:∀ h∈out,∀ c∈l,bg h c=true->c=h
theorem T8{l out:List (List UInt8)}{c:List UInt8}(hne:∀ x∈l ++ [c],x≠[])(hs:(l ++ [c]).Pairwise λa b=>aD a b<0)(h:xq l out):xq (l ++ [c]) (mA out c):=by
 obtain⟨h1,_,h3⟩:=List.pairwise_append.1 hs;have aa:∀ x∈l,aD x c<0:=λx hx=>h3 x hx c (by simp);have hout:∀ x∈out,x∈l:=λx hx=>h.sub.subset hx;have Kv:c≠[]:=hne c (by simp);have LG:∀ x∈l,bg x c=true->False:=λx hx hu=>by
  have a1:=CF Kv hu;have a2:=er.anti _ _ (aa x hx);omega
 unfold mA
 cases hg:out.getLast? with
 | none=>
  have ho:out = []:=by simpa using hg
  have hl:l = []:=by
   cases l with
   | nil=>rfl
   | cons y l=>obtain⟨q,hq,_⟩:=h.above y (by simp);rw[ho] at hq;cases hq
  subst ho hl;refine⟨by simp,λx hx=>⟨c,by simp,?_⟩,λx hx y hy _=>?_⟩
  ·simp at hx;subst hx;exact CG _
  ·simp at hx hy;rw[hx,hy]
 | some q=>
  have hq:q∈out:=List.mem_of_getLast? hg;dsimp only;split
  ·rename_i hu;refine⟨h.sub.trans (List.sublist_append_left _ _),λx hx=>?_,λx hx y hy bR=>?_⟩
   ·rcases List.mem_append.1 hx with hx | hx
    ·exact h.above x hx
    ·simp at hx;subst hx;exact⟨q,hq,hu⟩
   ·rcases List.mem_append.1 hy with hy | hy
    ·exact h.top x hx y hy bR
    ·simp at hy;subst hy;exact (LG x (hout x hx) bR).elim
  ·rename_i hu;refine⟨List.Sublist.append h.sub (List.Sublist.refl _),λx hx=>?_,λx hx y hy bR=>?_⟩
   ·rcases List.mem_append.1 hx with hx | hx
    ·obtain⟨t,ht,ka⟩:=h.above x hx;exact⟨t,List.mem_append_left _ ht,ka⟩
    ·simp at hx;subst hx;exact⟨x,by simp,CG _⟩
   ·rcases List.mem_append.1 hx with cU | cU
    ·rcases List.mem_append.1 hy with p9 | p9
     ·exact h.top x cU y p9 bR
     ·rw[List.mem_singleton] at p9;rw[p9] at bR;exact (LG x (hout x cU) bR).elim
    ·simp at cU;subst cU;rcases List.mem_append.1 hy with hy | hy
     ·exfalso;obtain⟨t,ht,ka⟩:=h.above y hy;have LC:t≠[]:=hne t (List.mem_append_left _ (hout t ht));have Vu:y≠[]:=hne y (List.mem_append_left _ hy);have LR:=GP Vu LC bR ka;by_cases FU:t=q
      ·subst FU;exact hu LR
      ·obtain⟨o',ho'⟩:=List.getLast?_eq_some_iff.1 hg;have Lv:out.Pairwise λa b=>aD a b<0:=h1.sublist h.sub;rw[ho'] at Lv ht;have LD:t∈o':=by
        rcases List.mem_append.1 ht with ht | ht
        ·exact ht
        ·simp at ht;exact absurd ht FU
       have lY:=(List.pairwise_append.1 Lv).2.2 t LD q (by simp);have UP:=aa q (hout q hq);have UO:=GO LC LR (Int.le_of_lt lY) (Int.le_of_lt UP);exact FU (h.top q hq t (hout t (by rw[ho'];exact List.mem_append_left _ LD)) UO)
     ·simp at hy;exact hy
theorem KK:∀ (r p:List (List UInt8)),(∀ x∈p++r,x≠[])->(p++r).Pairwise (λa b=>aD a b<0)->xq p (dB p)->xq (p++r) (dB (p++r))
 | [],p,_,_,h=>by rw[List.append_nil];exact h
 | c::r,p,hne,hs,h=>by
   have e:p++c::r=(p ++ [c])++r:=by simp
   rw[e] at hne hs |-;refine KK r (p ++ [c]) hne hs ?_;rw[KI];exact T8 (λx hx=>hne x (List.mem_append_left _ hx)) (List.pairwise_append.1 hs).1 h
theorem T7(l:List (List UInt8))(hne:∀ x∈l,x≠[])(hs:l.Pairwise λa b=>aD a b<0):xq l (dB l):=
 KK l [] hne hs ⟨List.Sublist.refl _,λc hc=>(by cases hc),λh hh=>(by cases hh)⟩
theorem KJ{z:Zone}(h:InOrder z):I8 (bZ z) (dB (bY z.apex z.sets))/\∀ c,bZ z c=true->(∀ d,bZ z d=true->bg c d=true->d=c)->c∈dB (bY z.apex z.sets):=by
 have hne:∀ x∈bY z.apex z.sets,x≠[]:=λx hx=>xK h x (zh.1 hx);have ho:=T7 _ hne (JM h);refine⟨⟨λc hc=>⟨zh.1 (ho.sub.subset hc),λd hd hu=>ho.top c hc d (zh.2 hd) hu⟩,(JM h).sublist ho.sub⟩,λc hc ht=>?_⟩;obtain⟨t,h1,h2⟩:=ho.above c (zh.2 hc);rw[<-ht t (zh.1 (ho.sub.subset h1)) h2];exact h1
def iu(H:List (List UInt8))(k:Nat)(n:List UInt8):List UInt8:=if 0<k/\bg n (H[k - 1]?.getD [])=true then H[k - 1]?.getD [] else []
theorem XX{z:Zone}(h:InOrder z){n:List UInt8}{k:Nat}(hk:k<=(dB (bY z.apex z.sets)).length)(h1:∀ j x,j<k->(dB (bY z.apex z.sets))[j]?=some x->aD x n<=0)(h2:∀ j x,k<=j->(dB (bY z.apex z.sets))[j]?=some x->0<aD x n):ig (bZ z) n (iu (dB (bY z.apex z.sets)) k n):=by
 obtain⟨p1,p2⟩:=KJ h
 have:=T9 (xK h) p1 (n:=n) (λc hc ht _=>p2 c hc ht) hk (λj hj re=>h1 j _ re (aQ hj)) (λj hj re=>h2 j _ re (aQ hj))
 unfold iu;split
 ·rename_i hc;rw[dif_pos hc] at this;exact this
 ·rename_i hc;rw[dif_neg hc] at this;exact this
end Np
section
open Go.RowKit Go.MapKept
def pH(p:Int×List UInt8):Value:=.agg #[.int .i64 p.1,aB p.2]
def ml(r:Nat)(kvs:List ((Int×List UInt8)×Value))(w:World):Prop:=∃ es,w.heap[r]?=some (.map es es.size)/\es.toList.map (λe=>(e.key,e.val))=kvs.map (λp=>(pH p.1,p.2))/\∀ (i:Nat) (e:MapEntry),es[i]?=some e->e.born=i
theorem ml.lt{r:Nat}{kvs:List ((Int×List UInt8)×Value)}{w:World}(h:ml r kvs w):r<w.heap.size:=by
 obtain⟨es,h,_⟩:=h;exact (eQ.1 h).1
theorem ml.keep{r:Nat}{kvs:List ((Int×List UInt8)×Value)}{w w':World}{n:Nat}(h:ml r kvs w)(hb:Below n w w')(hn:r<n):ml r kvs w':=by
 obtain⟨es,h,h2⟩:=h;exact⟨es,(hb.block r hn).trans h,h2⟩
theorem ml.keep'{r:Nat}{kvs:List ((Int×List UInt8)×Value)}{w w':World}(h:ml r kvs w)(hb:w'.heap[r]?=w.heap[r]?):ml r kvs w':=by
 obtain⟨es,h,h2⟩:=h;exact⟨es,hb.trans h,h2⟩
theorem ml.made(w:World):ml w.heap.size [] (w.alloc (.map #[] 0)):=⟨#[],heap_alloc_new _ _,rfl,λi e h=>by simp at h⟩
theorem Se(p q:Int×List UInt8)(w:World):(Op.equal 186 (pH p) (pH q)).run prog w = .ok (decide (p=q)) w:=by
 obtain⟨n,a⟩:=p;obtain⟨m,b⟩:=q;have u3:=underlying3;have a3:=isAgg3;have z3:=sizeOf3;have u9:=underlying9;have a9:=isAgg9;have z9:=sizeOf9;have hS:prog.underlying 186=some (.struct (prog.fieldsOf 186)):=by kernel_rfl
 have hp:prog.stoodInHeld 186=false:=by kernel_rfl
 show (Op.equalIn 10000 186 (.agg #[.int .i64 n,.string ⟨a.toArray⟩]) (.agg #[.int .i64 m,.string ⟨b.toArray⟩])).run prog w=_;rw[show (10000:Nat)=9999+1 from rfl,run_equalIn_agg w 9999 186 _ _ hS hp];simp only[Program.fieldsOf,underlying186];go_simp;by_cases h0:a=b <;> by_cases h1:n=m <;> simp[h0,h1]
theorem RA(b:Bool)(p:Int×List UInt8)(w:World):(Instr.checkKey b 10000 186 (pH p)).run prog w = .ok () w:=by
 have hS:=underlying186;have hs:∀ s w,(Instr.checkKey b 9999 9 (.string s)).run prog w = .ok () w:=λs w=>MapKept.run_checkKey (k:=.string s) underlying9 (by simp[MapKept.IsKey]) b 9998;have hi:∀ n w,(Instr.checkKey b 9999 3 (.int .i64 n)).run prog w = .ok () w:=λn w=>MapKept.run_checkKey (k:=.int .i64 n) underlying3 (by simp[MapKept.IsKey]) b 9998;have a3:=isAgg3;have z3:=sizeOf3;have a9:=isAgg9;have z9:=sizeOf9;rw[show (10000:Nat)=9999+1 from rfl,Instr.checkKey];simp only[pH,aB];simp[run_underlying hS,go_sem,Result.andThen,hs,hi]
theorem Sr{fs:Array Field}{k:Value}{e:MapEntry}{es:List MapEntry}(i:Nat):Instr.findNow (.struct fs) k (e::es) i=none:=by
 simp only[Instr.findNow];rfl
theorem Jo(p:Int×List UInt8)(w:World):∀ (es:List MapEntry) (kvs:List ((Int×List UInt8)×Value)) (i:Nat),es.map (λe=>(e.key,e.val))=kvs.map (λq=>(pH q.1,q.2))->
 (∀ v,kvs.lookup p=some v->∃ j,(es[j]?).map (λe=>(e.key,e.val))=some (pH p,v)/\kvs[j]?=some (p,v)/\(Instr.findAsking 186 (pH p) es i).run prog w = .ok (some (i+j,v)) w)/\(kvs.lookup p=none->(Instr.findAsking 186 (pH p) es i).run prog w = .ok none w)
 | [],kvs,i,h=>by
   cases kvs with
   | nil=>exact⟨λv h=>by simp at h,λ_=>by rw[Instr.findAsking];rfl⟩
   | cons=>simp at h
 | e::es,kvs,i,h=>by
   cases kvs with
   | nil=>simp at h
   | cons q kvs=>
    obtain⟨q,u⟩:=q;simp only[List.map_cons,List.cons.injEq,Prod.mk.injEq] at h;obtain⟨⟨h1,h2⟩,h3⟩:=h;obtain⟨i1,i2⟩:=Jo p w es kvs (i+1) h3;have hq:=Se p q w;rw[<-h1] at hq;by_cases pN:p=q
    ·have hd:decide (p=q)=true:=by simpa using pN
     rw[hd] at hq;have hr:(Instr.findAsking 186 (pH p) (e::es) i).run prog w = .ok (some (i,u)) w:=by
      rw[Instr.findAsking];simp[hq,h2]
     subst pN;refine⟨λv hv=>⟨0,?_,?_,?_⟩,λhn=>?_⟩
     ·rw[List.lookup_cons_self] at hv;cases hv;simp[h1,h2]
     ·rw[List.lookup_cons_self] at hv;cases hv;rfl
     ·rw[List.lookup_cons_self] at hv;cases hv;exact hr
     ·rw[List.lookup_cons_self] at hn;cases hn
    ·have hd:decide (p=q)=false:=by simpa using pN
     rw[hd] at hq;have hb:(p == q)=false:=by simpa using pN
     have hr:(Instr.findAsking 186 (pH p) (e::es) i).run prog w=(Instr.findAsking 186 (pH p) es (i+1)).run prog w:=by
      rw[Instr.findAsking];simp[hq]
     have hl:((q,u)::kvs).lookup p=kvs.lookup p:=by rw[List.lookup_cons,hb]
     rw[hr,hl];refine⟨λv hv=>?_,i2⟩;obtain⟨j,j1,j2,j3⟩:=i1 v hv;exact⟨j+1,by simpa using j1,by simpa using j2,by rw[show i+(j+1)=i+1+j by omega];exact j3⟩
theorem Sp(p:Int×List UInt8)(w:World)(es:List MapEntry)(kvs:List ((Int×List UInt8)×Value))(h:es.map (λe=>(e.key,e.val))=kvs.map (λq=>(pH q.1,q.2))) :
 (∀ v,kvs.lookup p=some v->∃ j,(es[j]?).map (λe=>(e.key,e.val))=some (pH p,v)/\kvs[j]?=some (p,v)/\(Instr.findKey 186 (pH p) es).run prog w = .ok (some (j,v)) w)/\(kvs.lookup p=none->(Instr.findKey 186 (pH p) es).run prog w = .ok none w):=by
 have hS:=underlying186
 cases es with
 | nil=>
  cases kvs with
  | nil=>exact⟨λv h=>by simp at h,λ_=>by simp[Instr.findKey,run_underlying hS,Instr.findNow]⟩
  | cons=>simp at h
 | cons e es=>
  obtain⟨i1,i2⟩:=Jo p w (e::es) kvs 0 h;have hr:(Instr.findKey 186 (pH p) (e::es)).run prog w=(Instr.findAsking 186 (pH p) (e::es) 0).run prog w:=by
   simp[Instr.findKey,run_underlying hS,Sr]
  rw[hr];refine⟨λv hv=>?_,i2⟩;obtain⟨j,j1,j2,j3⟩:=i1 v hv;exact⟨j,j1,j2,by rw[j3,Nat.zero_add]⟩
end
namespace Np
def fp(c:Copy):Int×List UInt8:=(c.host,c.zone.apex)
def eR(l:List Copy)(p:Int×List UInt8):List Span:=(l.filter λc=>decide (fp c=p)).map jd
theorem A7(l:List Copy)(c:Copy)(p:Int×List UInt8):eR (l ++ [c]) p=if fp c=p then eR l p ++ [jd c] else eR l p:=by
 unfold eR;rw[List.filter_append];by_cases h:fp c=p
 ·simp[h]
 ·simp[h]
theorem J7{l:List Copy}{p:Int×List UInt8}(h:∀ c∈l,fp c≠p):eR l p = []:=by
 unfold eR;rw[List.filter_eq_nil_iff.2 (λc hc=>by simpa using h c hc)];rfl
structure GrpI(kvs:List ((Int×List UInt8)×List Span))(l:List Copy):Prop where
 nodup:(kvs.map (·.1)).Nodup
 each:∀ x∈kvs,x.2=eR l x.1
 all:∀ c∈l,fp c∈kvs.map (·.1)
theorem GrpI.nil:GrpI [] []:=⟨by simp,λx hx=>(by cases hx),λc hc=>(by cases hc)⟩
theorem GrpI.old{kvs:List ((Int×List UInt8)×List Span)}{l:List Copy}(h:GrpI kvs l){c:Copy}{j:Nat}{g:List Span}(hj:kvs[j]?=some (fp c,g)):GrpI (kvs.set j (fp c,g ++ [jd c])) (l ++ [c]):=by
 obtain⟨hl,he⟩:=cQ.1 hj;have hk:(kvs.set j (fp c,g ++ [jd c])).map (·.1)=kvs.map (·.1):=by
  rw[List.map_set];apply List.ext_getElem?;intro i;rw[List.getElem?_set];split
  ·rename_i e;subst e;rw[List.length_map,Qb hl,List.getElem?_map,hj];rfl
  ·rfl
 have hg:=h.each _ (gQ hj);refine⟨by rw[hk];exact h.nodup,λx hx=>?_,λd hd=>?_⟩
 ·obtain⟨i,hi,rfl⟩:=nQ.1 hx;rw[List.length_set] at hi;rw[List.getElem_set];split
  ·rename_i e;subst e;rw[A7,Qb rfl];simp only at hg |-;rw[<-hg]
  ·rename_i e;rw[A7,Qc]
   ·exact h.each _ (List.getElem_mem hi)
   ·intro e2;apply e;have h1:(kvs.map (·.1))[j]'(by simpa using hl)=(kvs.map (·.1))[i]'(by simpa using hi):=by simp[he,e2]
    exact (List.getElem_inj (h₀:=by simpa using hl) (h₁:=by simpa using hi) h.nodup).1 h1
 ·rw[hk];rcases List.mem_append.1 hd with hd | hd
  ·exact h.all d hd
  ·rw[List.mem_singleton] at hd;subst hd;exact List.mem_map.2 ⟨_,gQ hj,rfl⟩
theorem GrpI.new{kvs:List ((Int×List UInt8)×List Span)}{l:List Copy}(h:GrpI kvs l){c:Copy}(hn:fp c∉kvs.map (·.1)):GrpI (kvs ++ [(fp c,[jd c])]) (l ++ [c]):=by
 have h0:eR l (fp c) = []:=J7 λd hd e=>hn (by rw[<-e];exact h.all d hd);refine⟨?_,λx hx=>?_,λd hd=>?_⟩
 ·rw[List.map_append,List.nodup_append];refine⟨h.nodup,by simp,λa ha b hb e=>?_⟩;simp at hb;subst hb;subst e;exact hn ha
 ·rcases List.mem_append.1 hx with hx | hx
  ·rw[A7,Qc]
   ·exact h.each x hx
   ·intro e;exact hn (by rw[e];exact List.mem_map.2 ⟨x,hx,rfl⟩)
  ·rw[List.mem_singleton] at hx;subst hx;rw[A7,Qb rfl,h0];rfl
 ·rw[List.map_append];rcases List.mem_append.1 hd with hd | hd
  ·exact List.mem_append_left _ (h.all d hd)
  ·rw[List.mem_singleton] at hd;subst hd;simp
def mo(a b:Span):Prop:=a.frm<b.til/\b.frm<a.til
theorem mo.symm{a b:Span}(h:mo a b):mo b a:=⟨h.2,h.1⟩
def Eh(m:List Span):Prop:=∀ i (h:i+1<m.length),m[i].til<=m[i+1].frm
theorem Yr{m l:List Span}(hp:m.Perm l)(hs:m.Pairwise λa b=>a.frm<=b.frm)(hf:∀ s∈l,s.frm<s.til):Eh m↔l.Pairwise λa b=>¬ mo a b:=by
 rw[<-hp.pairwise_iff (R:=λa b=>¬ mo a b) (λ{a b} h k=>h k.symm)];have KD:∀ s∈m,s.frm<s.til:=λs hs=>hf s (hp.mem_iff.1 hs);clear hp hf;constructor
 ·intro h;rw[List.pairwise_iff_getElem];intro i j hi hj dp ho;have key:∀ d,∀ (h1:i+d+1<m.length),(m[i]'(by omega)).til<=(m[i+d+1]'h1).frm:=by
   intro d
   induction d with
   | zero=>intro h1;exact h i h1
   | succ d ih=>
    intro h1;have h2:=ih (by omega);have h3:=h (i+d+1) (by omega);have h4:=KD _ (List.getElem_mem (show i+d+1<m.length by omega));have e:i+(d+1)+1=i+d+1+1:=by omega
    simp only[e];omega
  obtain⟨d,rfl⟩:∃ d,j=i+d+1:=⟨j - i - 1,by omega⟩
  have:=key d hj
  have:=ho.2
  omega
 ·intro h i hi;rw[List.pairwise_iff_getElem] at h hs;have h1:=h i (i+1) (by omega) hi (by omega);have h2:=hs i (i+1) (by omega) hi (by omega);have h3:=KD _ (List.getElem_mem hi);unfold mo at h1;omega
theorem SJ(l:List Copy):(l.Pairwise λc d=>¬ jf c d)↔∀ p,(eR l p).Pairwise λa b=>¬ mo a b:=by
 induction l with
 | nil=>simp[eR]
 | cons c l ih=>
  rw[List.pairwise_cons,ih];constructor
  ·rintro⟨h1,h2⟩ p;by_cases hp:fp c=p
   ·have e:eR (c::l) p=jd c::eR l p:=by unfold eR;simp[hp]
    rw[e,List.pairwise_cons];refine⟨λs hs=>?_,h2 p⟩;obtain⟨d,hd,rfl⟩:=List.mem_map.1 hs;obtain⟨gS,jX⟩:=List.mem_filter.1 hd;have hk:fp d=fp c:=by rw[hp];simpa using jX
    intro ho;unfold fp at hk;simp only[Prod.mk.injEq] at hk;exact h1 d gS ⟨hk.1.symm,hk.2.symm,ho.1,ho.2⟩
   ·have e:eR (c::l) p=eR l p:=by unfold eR;simp[hp]
    rw[e];exact h2 p
  ·intro h;refine⟨λd hd kB=>?_,λp=>?_⟩
   ·have h1:=h (fp c);have e:eR (c::l) (fp c)=jd c::eR l (fp c):=by unfold eR;simp
    rw[e,List.pairwise_cons] at h1;refine h1.1 (jd d) (List.mem_map.2 ⟨d,List.mem_filter.2 ⟨hd,?_⟩,rfl⟩) ⟨kB.2.2.1,kB.2.2.2⟩;unfold fp;simp[kB.1,kB.2.1]
   ·have h1:=h p;by_cases hp:fp c=p
    ·have e:eR (c::l) p=jd c::eR l p:=by unfold eR;simp[hp]
     rw[e,List.pairwise_cons] at h1;exact h1.2
    ·have e:eR (c::l) p=eR l p:=by unfold eR;simp[hp]
     rwa [e] at h1
theorem GrpI.ok{kvs:List ((Int×List UInt8)×List Span)}{l:List Copy}(h:GrpI kvs l):(l.Pairwise λc d=>¬ jf c d)↔∀ x∈kvs,x.2.Pairwise λa b=>¬ mo a b:=by
 rw[SJ];constructor
 ·intro h1 x hx;rw[h.each x hx];exact h1 _
 ·intro h1 p;by_cases hp:p∈kvs.map (·.1)
  ·obtain⟨x,hx,rfl⟩:=List.mem_map.1 hp;rw[<-h.each x hx];exact h1 x hx
  ·rw[J7 λc hc e=>hp (by rw[<-e];exact h.all c hc)];exact List.Pairwise.nil
theorem vw{l:List Copy}{a:List UInt8} : a∈apexes l↔∃ c∈l,c.zone.apex=a:=by
 unfold apexes;rw[(CB _).mem_iff,tJ,List.mem_map]
theorem Q7{l m:List Copy}(h:∀ a,(∃ c∈l,c.zone.apex=a)↔∃ c∈m,c.zone.apex=a):apexes l=apexes m:=
 GJ er _ _ (GD (tK _)) (GD (tK _)) λa=>vw.trans ((h a).trans vw.symm)
theorem En(l:List Copy):(l.map (·.zone.apex)).foldl dS []=apexes l:=by
 have key:∀ (l o:List (List UInt8)),o.Pairwise (λa b=>aD a b<0)->(l.foldl dS o).Pairwise (λa b=>aD a b<0)/\∀ y,y∈l.foldl dS o↔y∈o\/y∈l:=by
  intro l
  induction l with
  | nil=>exact λo ho=>⟨ho,λy=>by simp⟩
  | cons a l ih=>
   intro o ho;obtain⟨h1,h2⟩:=MY o a ho;obtain⟨h3,h4⟩:=ih _ h1;exact⟨h3,λy=>by rw[List.foldl_cons,h4,h2,List.mem_cons,or_assoc]⟩
 obtain⟨h1,h2⟩:=key (l.map (·.zone.apex)) [] List.Pairwise.nil;refine GJ er _ _ h1 (GD (tK _)) λa=>?_;rw[h2,vw,List.mem_map];simp
def uC(a:Int)(c:Copy):List Copy:=if c.frm<a/\a<c.til then [⟨c.host,c.frm,a,c.zone⟩,⟨c.host,a,c.til,c.zone⟩] else [c]
def sT(l:List Copy)(k:Nat)(a:Int):List Copy:=
 match l[k]? with
 | none=>l
 | some c=>l.take k++uC a c++l.drop (k+1)
theorem RW{a:Int}{c d:Copy}(h:d∈uC a c):d.host=c.host/\d.zone=c.zone/\c.frm<=d.frm/\d.til<=c.til/\(c.frm<c.til->d.frm<d.til):=by
 unfold uC at h;split at h
 ·rename_i hc;simp only[List.mem_cons,Qh,or_false] at h;rcases h with rfl | rfl
  ·exact⟨rfl,rfl,Int.le_refl _,Int.le_of_lt hc.2,λ_=>hc.1⟩
  ·exact⟨rfl,rfl,Int.le_of_lt hc.1,Int.le_refl _,λ_=>hc.2⟩
 ·rw[List.mem_singleton] at h;subst h;exact⟨rfl,rfl,Int.le_refl _,Int.le_refl _,id⟩
theorem RY{l:List Copy}{k:Nat}{c:Copy}(h:l[k]?=some c):l=l.take k ++ [c]++l.drop (k+1):=by
 obtain⟨hk,rfl⟩:=cQ.1 h;rw[List.append_assoc,List.singleton_append,List.getElem_cons_drop,List.take_append_drop]
theorem JK(l:List Copy)(k:Nat)(a:Int):sT l k a=l\/∃ p c q,l=p ++ [c]++q/\sT l k a=p++uC a c++q:=by
 unfold sT
 cases h:l[k]? with
 | none=>exact .inl rfl
 | some c=>exact .inr ⟨_,c,_,RY h,rfl⟩
theorem JL{l:List Copy}{k:Nat}{a:Int}{d:Copy}(h:d∈sT l k a):∃ c∈l,d.host=c.host/\d.zone=c.zone/\c.frm<=d.frm/\d.til<=c.til/\(c.frm<c.til->d.frm<d.til):=by
 rcases JK l k a with e | ⟨p,c,q,e1,e2⟩
 ·rw[e] at h;exact⟨d,h,rfl,rfl,Int.le_refl _,Int.le_refl _,id⟩
 ·rw[e2] at h;rcases List.mem_append.1 h with h | h
  ·rcases List.mem_append.1 h with h | h
   ·exact⟨d,by rw[e1];simp[h],rfl,rfl,Int.le_refl _,Int.le_refl _,id⟩
   ·exact⟨c,by rw[e1];simp,RW h⟩
  ·exact⟨d,by rw[e1];simp[h],rfl,rfl,Int.le_refl _,Int.le_refl _,id⟩
theorem Ki{l:List Copy}(hl:ix l){P:Int->Zone->Prop} : (∃ c∈l,P c.host c.zone)↔∃ t,∃ c∈l,P c.host c.zone/\c.frm<=t/\t<c.til:=
 ⟨λ⟨c,h1,h2⟩=>⟨c.frm,c,h1,h2,Int.le_refl _,hl c h1⟩,λ⟨_,c,h1,h2,_⟩=>⟨c,h1,h2⟩⟩
def uw(l m:List Copy):Prop:=∀ (P:Int->Zone->Prop) (t:Int),(∃ d∈l,P d.host d.zone/\d.frm<=t/\t<d.til)↔∃ c∈m,P c.host c.zone/\c.frm<=t/\t<c.til
theorem uw.zone{l m:List Copy}(h:uw l m)(hl:ix l)(hm:ix m){P:Int->Zone->Prop} : (∃ c∈l,P c.host c.zone)↔∃ c∈m,P c.host c.zone:=by
 rw[Ki hl,Ki hm];exact⟨λ⟨t,ht⟩=>⟨t,(h P t).1 ht⟩,λ⟨t,ht⟩=>⟨t,(h P t).2 ht⟩⟩
theorem uw.apexes{l m:List Copy}(h:uw l m)(hl:ix l)(hm:ix m):apexes l=apexes m:=
 Q7 λa=>h.zone hl hm (P:=λ_ z=>z.apex=a)
theorem uw.fresh{l m:List Copy}(h:uw l m)(hl:ix l)(hm:ix m)(zone:List UInt8)(s:Signed):f9 (fq (cV l zone) s)=f9 (fq (cV m zone) s):=by
 refine WP (CE hl) (CE hm) λt=>Ga.trans (Iff.trans ?_ Ga.symm)
 have:=h (λ_ z=>z.apex=zone/\s∈z.sets) t
 simpa only[and_assoc] using this
theorem MI(a b:List Copy)(zone:List UInt8):cV (a++b) zone=cV a zone++cV b zone:=by
 unfold cV sS;rw[List.filter_append,List.flatMap_append]
theorem RX(l:List Copy)(k:Nat)(a:Int):(sT l k a).length<=l.length+1:=by
 rcases JK l k a with e | ⟨p,c,q,e1,e2⟩
 ·rw[e];omega
 ·rw[e2,e1]
  have:(uC a c).length<=2:=by unfold uC;split <;> simp
  simp only[List.length_append,List.length_singleton];omega
def withC(h:Hist)(l:List Copy):Hist:=⟨h.hosts,l,h.anchor,h.hints,h.drift,h.stop⟩
def dF(l:List Copy)(u:Int):List Copy:=(l.map λc=>⟨c.host,c.frm,min c.til u,c.zone⟩).filter λc=>decide (c.frm<c.til)
theorem rJ{l:List Copy}{u:Int}{d:Copy} : d∈dF l u↔∃ c∈l,d=⟨c.host,c.frm,min c.til u,c.zone⟩/\c.frm<min c.til u:=by
 unfold dF;rw[List.mem_filter,List.mem_map];constructor
 ·rintro⟨⟨c,hc,rfl⟩,h⟩;exact⟨c,hc,rfl,by simpa using h⟩
 ·rintro⟨c,hc,rfl,h⟩;exact⟨⟨c,hc,rfl⟩,by simpa using h⟩
theorem GA(l:List Copy)(u:Int):ix (dF l u):=λd hd=>by
 obtain⟨c,_,rfl,h⟩:=rJ.1 hd;exact h
theorem YT{h:Hist}(v:VHist h)(u:Int):VHist (withC h (dF h.copies u)):=by
 refine⟨v.stop,v.drift,v.hosts,v.root,λd hd=>?_,?_⟩
 ·obtain⟨c,hc,rfl,aa⟩:=rJ.1 hd;obtain⟨a1,a2,a3⟩:=v.each c hc;exact⟨a1,⟨a2.1,aa,by have:=a2.2.2;show min c.til u<=h.stop;omega⟩,a3⟩
 ·show (dF h.copies u).Pairwise _;unfold dF;refine List.Pairwise.sublist List.filter_sublist ?_;rw[List.pairwise_map];refine v.apart.imp λhn=>λ⟨h1,h2,h3,h4⟩=>hn ⟨h1,h2,?_,?_⟩
  ·dsimp only at h3;omega
  ·dsimp only at h4;omega
theorem ND(l:List Copy)(u:Int):(dF l u).length<=l.length:=by
 unfold dF;exact yQ (List.length_filter_le _ _) (by rw[List.length_map];exact bQ _)
end Np
section
open Go.RowKit
open Classical in
noncomputable def bd(w:World)(M:Nat->Prop):World:={ w with heap:=w.heap.mapIdx λk o=>if M k then .cells #[] 0 else o }
theorem jH(w:World)(M:Nat->Prop):(bd w M).heap.size=w.heap.size:=by simp[bd]
theorem kh{w:World}{M:Nat->Prop}{k:Nat}(h:¬ M k):(bd w M).heap[k]?=w.heap[k]?:=by
 unfold bd;simp only[Array.getElem?_mapIdx,h,if_false]
 cases w.heap[k]? <;> rfl
theorem tS{w:World}{M:Nat->Prop}{k:Nat}(h:M k):(bd w M).heap[k]?=(w.heap[k]?).map λ_=>Obj.cells #[] 0:=by
 unfold bd;simp only[Array.getElem?_mapIdx,h,if_true]
theorem Nw{w:World}{M:Nat->Prop}{p:Addr}{v:Value}(h:(bd w M).cell? p=some v):¬ M p.block/\w.cell? p=some v:=by
 by_cases hm:M p.block
 ·exfalso;unfold World.cell? at h;rw[tS hm] at h
  cases hh:w.heap[p.block]? with
  | none=>simp[hh] at h
  | some o=>simp[hh] at h
 ·refine⟨hm,?_⟩;rw[<-h];exact (iQ (w:=w) (kh hm)).symm
theorem YN{w:World}{M:Nat->Prop}{p:Addr}(h:¬ M p.block):(bd w M).cell? p=w.cell? p:=iQ (w:=w) (kh h)
def fV{α:Type}(R:World->Nat->List Value->α->Prop):Prop:=∀ w (M M':Nat->Prop) B e x,(∀ k,M' k->M k)->R (bd w M) B e x->R (bd w M') B e x
theorem ag.sans{w:World}{M M':Nat->Prop}{b o:Nat}{e:List Value}(hM:∀ k,M' k->M k)(h:ag (bd w M) b o e):ag (bd w M') b o e:=λj v hj=>by
 obtain⟨h1,h2⟩:=Nw (h j v hj);rw[YN (λe=>h1 (hM _ e))];exact h2
theorem SlR.sans{α:Type}{R:World->Nat->List Value->α->Prop}{sz:Nat}{w:World}{M M':Nat->Prop}{B:Nat}{v:Value}{xs:List α}(hR:fV R)(hM:∀ k,M' k->M k)(h:SlR R sz (bd w M) B v xs):SlR R sz (bd w M') B v xs:=by
 obtain⟨A,c,hv,hc,hl,he⟩:=h;refine⟨A,c,hv,hc,hl,λi x hx=>?_⟩;obtain⟨b,o,e,hA,hB,bK,hce,hr⟩:=he i x hx;exact⟨b,o,e,hA,hB,bK,hce.sans hM,hR _ _ _ _ _ _ hM hr⟩
theorem Nx(w:World):bd w (λ_=>False)=w:=by
 unfold bd
 cases w
 simp only[World.mk.injEq,and_true];apply Array.ext_getElem?;intro i;simp only[Array.getElem?_mapIdx,if_false];rename_i heap _ _ _ _
 cases heap[i]? <;> rfl
theorem SlR.all{α:Type}{R:World->Nat->List Value->α->Prop}{sz:Nat}{w:World}{M:Nat->Prop}{B:Nat}{v:Value}{xs:List α}(hR:fV R)(h:SlR R sz (bd w M) B v xs):SlR R sz w B v xs:=by
 have:=h.sans (M':=λ_=>False) hR (λ_ e=>e.elim)
 rw[Nx] at this;exact this
theorem zt:fV bn:=λ_ _ _ _ _ _ _ h=>h
theorem zx:fV dj:=λ_ _ _ _ _ _ _ h=>h
theorem mb:fV bh:=λ_ _ _ _ _ _ hM ⟨s,v,u,h1,h2,h3,h4,h5⟩=>⟨s,v,u,h1,h2,h3.sans zt hM,h4.sans zx hM,h5⟩
theorem fV.all{α:Type}{R:World->Nat->List Value->α->Prop}(hR:fV R){w:World}{M:Nat->Prop}{B:Nat}{e:List Value}{x:α}(h:R (bd w M) B e x):R w B e x:=by
 have:=hR w M (λ_=>False) B e x (λ_ e=>e.elim) h
 rw[Nx] at this;exact this
structure Leaves'(M:Nat->Prop)(w w':World)(M':Nat->Prop):Prop where
 os:w'.os=w.os
 tape:w'.tape=w.tape
 output:w'.output=w.output
 size:w.heap.size<=w'.heap.size
 keep:∀ k,k<w.heap.size->¬ M k->¬ M' k/\w'.heap[k]?=w.heap[k]?
theorem Leaves'.refl(M:Nat->Prop)(w:World):Leaves' M w w M:=⟨rfl,rfl,rfl,bQ _,λ_ _ h=>⟨h,rfl⟩⟩
theorem Leaves'.trans{M M' M'':Nat->Prop}{a b c:World}(h:Leaves' M a b M')(k:Leaves' M' b c M''):Leaves' M a c M'':=
 ⟨k.os.trans h.os,k.tape.trans h.tape,k.output.trans h.output,yQ h.size k.size,λi hi hm=>by
  obtain⟨h1,h2⟩:=h.keep i hi hm;obtain⟨h3,h4⟩:=k.keep i (lQ hi h.size) h1;exact⟨h3,h4.trans h2⟩⟩
theorem Leaves'.of_below{M:Nat->Prop}{w w':World}(h:Below w.heap.size w w'):Leaves' M w w' M:=⟨h.os,h.tape,h.output,h.size,λk hk hm=>⟨hm,h.block k hk⟩⟩
theorem Leaves'.setCell(M:Nat->Prop)(w:World){p:Addr}(hp:M p.block)(v:Value):Leaves' M w (w.setCell p v) M:=
 ⟨rfl,rfl,rfl,by simp[World.setCell],λk _ hm=>⟨hm,wQ _ _ _ _ (λe=>hm (e ▸ hp))⟩⟩
theorem Leaves'.grown{M:Nat->Prop}{w w':World}{row:Option Nat}(hg:w.grownBy w' row)(hr:∀ k,row=some k->M k):Leaves' M w w' M:=
 ⟨hg.os,hg.tape,hg.output,hg.size,λk hk hm=>⟨hm,hg.block k hk (λe=>hm (hr k e.symm))⟩⟩
theorem Leaves'.more{M M' N:Nat->Prop}{w w':World}(h:Leaves' M w w' M')(hN:∀ k,N k->M' k\/w.heap.size<=k):Leaves' M w w' N:=
 ⟨h.os,h.tape,h.output,h.size,λk hk hm=>⟨λe=>(hN k e).elim (h.keep k hk hm).1 (by omega),(h.keep k hk hm).2⟩⟩
theorem Leaves'.read{α:Type}{R:World->Nat->List Value->α->Prop}(hk:cY R)(hs:fV R)(hm:dw R){M M':Nat->Prop}{w w':World}(h:Leaves' M w w' M'){e:List Value}{x:α}(hr:R (bd w M) w.heap.size e x):R (bd w' M') w'.heap.size e x:=by
 have hb:Below w.heap.size (bd w M) (bd w' λk=>M k\/M' k):=by
  refine⟨h.os,h.tape,h.output,by rw[jH,jH];exact h.size,λk hk=>?_⟩;by_cases hM:M k
  ·rw[tS hM,tS (M:=λk=>M k\/M' k) (Or.inl hM)];have h1:k<w'.heap.size:=lQ hk h.size;rw[pQ hk,pQ h1];rfl
  ·obtain⟨h1,h2⟩:=h.keep k hk hM;rw[kh hM,kh (M:=λk=>M k\/M' k) (λe=>e.elim hM h1),h2]
 exact hm _ _ _ _ _ (hs _ _ _ _ _ _ (λk e=>Or.inr e) (hk _ _ _ _ _ hr hb)) h.size
def br{α:Type}(R:World->Nat->List Value->α->Prop)(sz:Nat)(e:TypeId)(base:Nat)(M:Nat->Prop)(w:World)(v:Value)(xs:List α):Prop:=
 ∃ rows:List (List Value),rows.length=xs.length/\w.ownsRow base e sz v xs.length rows.flatten/\(∀ g,v.ownBlock=some g->M g)/\
   ∀ (i:Nat) (r:List Value) (x:α),rows[i]?=some r->xs[i]?=some x->r.length=sz/\R (bd w M) w.heap.size r x
theorem br.nil{α:Type}{R:World->Nat->List Value->α->Prop}{sz:Nat}{e:TypeId}{base:Nat}{M:Nat->Prop}(w:World):br (α:=α) R sz e base M w (.slice none 0 0) []:=
 ⟨[],rfl,⟨by simp,.inl ⟨rfl,rfl⟩⟩,(λg h=>by cases h),λi r x h=>by simp at h⟩
theorem br.form{α:Type}{R:World->Nat->List Value->α->Prop}{sz:Nat}{e:TypeId}{base:Nat}{M:Nat->Prop}{w:World}{v:Value}{xs:List α}(h:br R sz e base M w v xs):∃ A c,v = .slice A xs.length c:=by
 obtain⟨rows,h1,h2,h3⟩:=h;rcases h2.2 with ⟨rfl,h0⟩ | ⟨g,cap,cur,rfl,_⟩
 ·exact⟨none,0,by rw[h0]⟩
 ·exact⟨_,cap,rfl⟩
theorem br.leaves{α:Type}{R:World->Nat->List Value->α->Prop}(hk:cY R)(hs:fV R)(hm:dw R){sz:Nat}{e:TypeId}{base:Nat}{M M':Nat->Prop}{w w':World}{v:Value}{xs:List α}(h:br R sz e base M w v xs)(hl:Leaves' M w w' M')
 (ho:∀ g,v.ownBlock=some g->w'.heap[g]?=w.heap[g]?/\M' g):br R sz e base M' w' v xs:=by
 obtain⟨rows,h1,h2,h3,h4⟩:=h;exact⟨rows,h1,ga h2 (λg hg=>(ho g hg).1),λg hg=>(ho g hg).2,λi r x hr hx=>⟨(h4 i r x hr hx).1,hl.read hk hs hm (h4 i r x hr hx).2⟩⟩
theorem br.slr{α:Type}{R:World->Nat->List Value->α->Prop}(hs:fV R){sz:Nat}{e:TypeId}{base:Nat}{M:Nat->Prop}{w:World}{v:Value}{xs:List α}(h:br R sz e base M w v xs)(hl:xs.length<=140737488355328):SlR R sz w w.heap.size v xs:=by
 obtain⟨rows,h1,h2,h3,h4⟩:=h;have hl':=bL.rows_len (w:=bd w M) (B:=w.heap.size) h1 h4;rcases h2.2 with ⟨rfl,h0⟩ | ⟨g,cap,cur,rfl,hb,hg,lk,_⟩
 ·have:xs = []:=rQ h0
  subst this;exact⟨none,0,rfl,by simp,by simp,λi x hx=>by simp at hx⟩
 ·refine⟨_,cap,rfl,lk,hl,λi x hx=>?_⟩;have hi:=(cQ.1 hx).1;have hr:=aQ (l:=rows) (i:=i) (by omega);obtain⟨h5,h6⟩:=h4 i _ x hr hx;refine⟨g,0,rows[i],rfl,(eQ.1 hg).1,h5,λj u hj=>?_,hs.all h6⟩;have h7:=h2.cells (g:=g) rfl _ _ (AX rows i j _ u hl' hr hj);have mw:(⟨g,0,none⟩:Addr).add (i * sz+j)=⟨g,0+i * sz+j,none⟩:=by unfold Addr.add;split <;> simp_all
  rw[mw] at h7;exact h7
def qH{α:Type}(R:World->Nat->List Value->α->Prop)(sz:Nat)(M:Nat->Prop)(w:World)(A:Option Addr)(ys:List α):Prop:=
 ∃ rows:List (List Value),rows.length=ys.length/\(∀ (i:Nat) (r:List Value) (x:α),rows[i]?=some r->ys[i]?=some x->r.length=sz/\R (bd w M) w.heap.size r x)/\(ys≠[]->∃ b o,A=some ⟨b,o,none⟩/\∀ j u,rows.flatten[j]?=some u->w.cell? ((⟨b,o,none⟩:Addr).add j)=some u)
theorem Gy{α:Type}{R:World->Nat->List Value->α->Prop}{sz:Nat}{M:Nat->Prop}{w:World}{b o:Nat}{r:List Value}{x:α}(hl:r.length=sz)(hr:R (bd w M) w.heap.size r x)(hc:ag w b o r):qH R sz M w (some ⟨b,o,none⟩) [x]:=by
 refine⟨[r],rfl,λi r' x' h1 h2=>?_,λ_=>⟨b,o,rfl,λj u hj=>?_⟩⟩
 ·cases i with
  | zero=>simp at h1 h2;subst h1;subst h2;exact⟨hl,hr⟩
  | succ i=>simp at h1
 ·have mw:(⟨b,o,none⟩:Addr).add j=⟨b,o+j,none⟩:=by unfold Addr.add;split <;> simp_all
  rw[mw];exact hc j u (by simpa using hj)
theorem Yt{α:Type}{R:World->Nat->List Value->α->Prop}{sz:Nat}{M:Nat->Prop}{w:World}{A:Option Addr}{n c:Nat}{ys:List α}(h:SlR R sz (bd w M) w.heap.size (.slice A n c) ys)(an:0<sz):qH R sz M w A ys:=by
 obtain⟨rows,h1,h2,h3⟩:=NL h an;exact⟨rows,h1,h2,λhy=>by obtain⟨b,o,h4,_,h5⟩:=h3 hy;exact⟨b,o,h4,λj u hj=>(Nw (h5 j u hj)).2⟩⟩
section
variable {P:Program}
theorem Yz{α:Type}{R:World->Nat->List Value->α->Prop}{sz:Nat}{M:Nat->Prop}(w:World)(t ty:TypeId)
 (base:Nat) (e:TypeId) (i:TypeInfo) (z:Value) (bytes:Nat) (ht:P.underlying t=some (.slice e)) (hi:P.info? e=some i) (hz:i.zero=some z) (kF:i.size=sz) (gG:i.bytes=bytes) (nN:z.cells.size=sz) (an:0<sz)
 (v:Value) (xs:List α) (hown:br R sz e base M w v xs) (A:Option Addr) (c:Nat) (ys:List α) (cD:qH R sz M w A ys)
 (tw:∀ w B r y,R w B r y->∀ u∈r,u.oneCell'=true) (ju:xs.length+ys.length<=maxLen) (lN:(xs.length+ys.length) * bytes<=140737488355328) (dD:base<=w.heap.size) (hk:cY R) (hs:fV R) (hm:dw R) :
 ∃ v' w',(Builtin.append_ #[t,t] ty #[v,.slice A ys.length c]).run P w = .ok v' w'/\br R sz e base (λk=>M k\/v'.ownBlock=some k) w' v' (xs++ys)/\w.grownBy w' v.ownBlock/\(v'.ownBlock=v.ownBlock\/v'.ownBlock=some w.heap.size):=by
 have pK:∀ (w':World) (v':Value) (rows rows':List (List Value)),w.grownBy w' v.ownBlock->(v'.ownBlock=v.ownBlock\/v'.ownBlock=some w.heap.size)->(∀ g,v.ownBlock=some g->M g)->rows.length=xs.length->(∀ (i:Nat) (r:List Value) (x:α),rows[i]?=some r->xs[i]?=some x->r.length=sz/\R (bd w M) w.heap.size r x)->rows'.length=ys.length->
  (∀ (i:Nat) (r:List Value) (x:α),rows'[i]?=some r->ys[i]?=some x->r.length=sz/\R (bd w M) w.heap.size r x)->w'.ownsRow base e sz v' (xs.length+ys.length) (rows.flatten++rows'.flatten)->br R sz e base (λk=>M k\/v'.ownBlock=some k) w' v' (xs++ys):=by
  intro w' v' rows rows' hg hat uI h1 h2 h3 h4 h5;have tq:Leaves' M w w' (λk=>M k\/v'.ownBlock=some k):=(Leaves'.grown hg uI).more (λk e=>by
   rcases e with e | e
   ·exact .inl e
   ·rcases hat with h | h
    ·exact .inl (uI k (h ▸ e))
    ·rw[h] at e;cases e;exact .inr (bQ _))
  refine⟨rows++rows',by simp[h1,h3],?_,λg hg'=>.inr hg',λj r y hr hy=>?_⟩
  ·rw[List.length_append,List.flatten_append];exact h5
  ·rcases Nat.lt_or_ge j rows.length with aa | lP
   ·rw[List.getElem?_append_left aa] at hr;rw[List.getElem?_append_left (by omega)] at hy;obtain⟨h6,h7⟩:=h2 j r y hr hy;exact⟨h6,tq.read hk hs hm h7⟩
   ·rw[oQ lP] at hr;rw[oQ (by omega),<-h1] at hy;obtain⟨h6,h7⟩:=h4 _ r y hr hy;exact⟨h6,tq.read hk hs hm h7⟩
 obtain⟨rows,h1,h2,uI,h3⟩:=hown;obtain⟨rows',h4,h5,h6⟩:=cD;by_cases hy:ys = []
 ·subst hy;have lX:rows' = []:=rQ (by simpa using h4);subst lX
  cases A with
  | none=>
   have cI:=Nt (P:=P) base t ty e i sz ht hi v xs.length c rows.flatten h2;have hg:w.grownBy w v.ownBlock:=⟨rfl,rfl,rfl,bQ _,λ_ _ _=>rfl⟩;exact⟨v,w,cI,pK w v rows [] hg (.inl rfl) uI h1 h3 rfl (λj r y hr=>by simp at hr) (by simpa using h2),hg,.inl rfl⟩
  | some ad=>
   obtain⟨v',w',hr,ho',hg,_,hat⟩:=run_append_own_at (P:=P) w base t ty e i z sz bytes ht hi hz kF gG nN an v xs.length rows.flatten h2 ad 0 c [] (by simp) (λj u hj=>by simp at hj) (λu hu=>by cases hu) (by simpa using ju) (by simpa using lN) dD;exact⟨v',w',hr,pK w' v' rows [] hg hat uI h1 h3 rfl (λj r y hr=>by simp at hr) (by simpa using ho'),hg,hat⟩
 ·obtain⟨b,o',rfl,hcell⟩:=h6 hy;have hl:=bL.rows_len (w:=bd w M) (B:=w.heap.size) h4 h5;obtain⟨v',w',hr,ho',hg,_,hat⟩:=run_append_own_at (P:=P) w base t ty e i z sz bytes ht hi hz kF gG nN an v xs.length rows.flatten h2 ⟨b,o',none⟩ ys.length c rows'.flatten (by rw[EB rows' hl,h4]) hcell (λu hu=>by
   obtain⟨r,hr,FV⟩:=List.mem_flatten.1 hu;obtain⟨j,hj,rfl⟩:=nQ.1 hr;exact tw _ _ _ _ (h5 j _ _ (aQ hj) (aQ (by omega))).2 u FV) ju lN dD
  exact⟨v',w',hr,pK w' v' rows rows' hg hat uI h1 h3 h4 h5 ho',hg,hat⟩
theorem Ot{α:Type}{R:World->Nat->List Value->α->Prop}{sz:Nat}{M:Nat->Prop}(w:World){o:Oper}{a:Act}{K:Act->World->Prop}{Q:Exit->Act->World->Prop}(s x:Operand)(t:TypeId)
 (ho:o.op = .call { callee:=.builtin .append,args:=#[s,x],argTypes:=#[t,t] })
 (base:Nat) (e:TypeId) (i:TypeInfo) (z:Value) (bytes:Nat) (ht:P.underlying t=some (.slice e)) (hi:P.info? e=some i) (hz:i.zero=some z) (kF:i.size=sz) (gG:i.bytes=bytes) (nN:z.cells.size=sz) (an:0<sz)
 (v:Value) (xs:List α) (hv:a.eval s=v) (hown:br R sz e base M w v xs) (A:Option Addr) (c:Nat) (ys:List α) (hx:a.eval x = .slice A ys.length c) (cD:qH R sz M w A ys)
 (tw:∀ w B r y,R w B r y->∀ u∈r,u.oneCell'=true) (ju:xs.length+ys.length<=maxLen) (lN:(xs.length+ys.length) * bytes<=140737488355328) (dD:base<=w.heap.size) (hk:cY R) (hs:fV R) (hm:dw R)
 (h:∀ v' w',br R sz e base (λk=>M k\/v'.ownBlock=some k) w' v' (xs++ys)->w.grownBy w' v.ownBlock->(v'.ownBlock=v.ownBlock\/v'.ownBlock=some w.heap.size)->K (a.put o.dst v') w'):o.wp P a w K Q:=by
 obtain⟨v',w',hr,h2,h4,h5⟩:=Yz (P:=P) w t o.type base e i z bytes ht hi hz kF gG nN an v xs hown A c ys cD tw ju lN dD hk hs hm;unfold Oper.wp execOp;simp only[ho,resolve,invoke,builtin,Sem.run_bind,Sem.run_pure,Result.andThen_ok,List.map_toArray,List.map_cons,List.map_nil,hv,hx,hr];exact h v' w' h2 h4 h5
theorem G1{α:Type}{R:World->Nat->List Value->α->Prop}{sz:Nat}{M:Nat->Prop}(w:World){ops:Array Oper}{rest:List Oper}{o:Oper}{a:Act}{Q:Exit->Act->World->Prop}(gT:o.guard=none)(s x:Operand)(t:TypeId)
 (ho:o.op = .call { callee:=.builtin .append,args:=#[s,x],argTypes:=#[t,t] })
 (base:Nat) (e:TypeId) (i:TypeInfo) (z:Value) (bytes:Nat) (ht:P.underlying t=some (.slice e)) (hi:P.info? e=some i) (hz:i.zero=some z) (kF:i.size=sz) (gG:i.bytes=bytes) (nN:z.cells.size=sz) (an:0<sz)
 (v:Value) (xs:List α) (hv:a.eval s=v) (hown:br R sz e base M w v xs) (A:Option Addr) (c:Nat) (ys:List α) (hx:a.eval x = .slice A ys.length c) (cD:qH R sz M w A ys)
 (tw:∀ w B r y,R w B r y->∀ u∈r,u.oneCell'=true) (ju:xs.length+ys.length<=maxLen) (lN:(xs.length+ys.length) * bytes<=140737488355328) (dD:base<=w.heap.size) (hk:cY R) (hs:fV R) (hm:dw R)
 (h:∀ v' w',br R sz e base (λk=>M k\/v'.ownBlock=some k) w' v' (xs++ys)->w.grownBy w' v.ownBlock->(v'.ownBlock=v.ownBlock\/v'.ownBlock=some w.heap.size)->wpList P ops Q rest (a.put o.dst v') w'):wpList P ops Q (o::rest) a w:=by
 refine wpList_plain gT λK hK=>?_;exact Ot w s x t ho base e i z bytes ht hi hz kF gG nN an v xs hv hown A c ys hx cD tw ju lN dD hk hs hm (λv' w' h1 h2 h3=>hK _ _ (h v' w' h1 h2 h3))
end
theorem WI(a b:ByteArray)(n m p q:Int)(w:World):(binOp .neq 128 (.agg #[.string a,.int .i64 n,.int .i64 m]) (.agg #[.string b,.int .i64 p,.int .i64 q])).run prog w = .ok (.bool (!(a.toList == b.toList&&(n == p&&m == q)))) w:=by
 have u3:=underlying3;have a3:=isAgg3;have z3:=sizeOf3;have u9:=underlying9;have a9:=isAgg9;have z9:=sizeOf9;have hS:prog.underlying 128=some (.struct (prog.fieldsOf 128)):=by kernel_rfl
 have hp:prog.stoodInHeld 128=false:=by kernel_rfl
 rw[run_neq_struct,show (10000:Nat)=9999+1 from rfl,run_equalIn_agg w 9999 128 _ _ hS hp];simp only[Program.fieldsOf,underlying128];go_simp;by_cases h0:a.toList=b.toList <;> by_cases h1:n=p <;> by_cases h2:m=q <;> simp[h0,h1,h2]
theorem R2{d x:Np.Datum}{a b:ByteArray}(ha:a.data.toList=d.text)(hb:b.data.toList=x.text):(!(a.toList == b.toList&&(d.n == x.n&&d.m == x.m)))=decide (d≠x):=by
 rw[dQ,dQ,ha,hb,Bool.eq_iff_iff];simp only[Bool.not_eq_true',Bool.and_eq_false_iff,beq_eq_false_iff_ne,Qa];obtain⟨t,n,m⟩:=d;obtain⟨t2,n2,m2⟩:=x;simp only[ne_eq,Np.Datum.mk.injEq,not_and];constructor
 ·rintro (h | h | h) rfl rfl
  ·exact absurd rfl h
  ·exact absurd rfl h
  ·exact h
 ·intro h;by_cases h1:t=t2
  ·by_cases h2:n=n2
   ·exact .inr (.inr (h h1 h2))
   ·exact .inr (.inl h2)
  ·exact .inl h1
theorem RT{α:Type}{xs ys:List α}{k:Nat}(h1:k<xs.length)(h2:k<ys.length)(h:xs.take k=ys.take k)(he:xs[k]=ys[k]):xs.take (k+1)=ys.take (k+1):=by
 rw[fQ h1,fQ h2,h,he]
theorem RS{α:Type}{xs ys:List α}{k:Nat}(hl:xs.length=ys.length)(hk:¬ k<xs.length)(h:xs.take k=ys.take k):xs=ys:=by
 rwa [kQ (by omega),kQ (by omega)] at h
theorem YI(s1 s2:ByteArray)(t1 l1 t2 l2:Int)(v1 v2:Value)(d1 d2:List Np.Datum)(w:World)(gS:SlR bn 3 w w.heap.size v1 d1)(jX:SlR bn 3 w w.heap.size v2 d2) :
 Calls prog 63 #[.agg #[.string s1,.int .i64 t1,.int .i64 l1,v1],.agg #[.string s2,.int .i64 t2,.int .i64 l2,v2]] w
  λe w'=>e = .returned (.bool (decide (s1=s2/\t1=t2/\l1=l2/\d1=d2)))/\Below w.heap.size w w':=by
 obtain⟨r,hr⟩:∃ r,decide (s1=s2/\t1=t2/\l1=l2/\d1=d2)=r:=⟨_,rfl⟩;rw[hr];have HR:=jq hr;have wu:=jq gS;have jK:=jq jX;obtain⟨A1,c1,rfl,bw,bT⟩:=al gS;obtain⟨A2,c2,rfl,eG,dI⟩:=al jX;have jV:Below w.heap.size w ((w.alloc (.cells #[.string s1,.int .i64 t1,.int .i64 l1,.slice A1 d1.length c1] 26)).alloc (.cells #[.string s2,.int .i64 t2,.int .i64 l2,.slice A2 d2.length c2] 26)):=((vQ _ _).alloc (bQ _) _).alloc (by simp) _;have aZ:=jq jV;clear hr gS jX jV;have tt:∀ x y:Int,(x != y)=decide (x≠y):=λx y=>by by_cases h:x=y <;> simp[h]
 by_cases h1:s1=s2
 case neg=>
  have h1':¬ s1.toList=s2.toList:=λe=>h1 (kL (by rw[<-dQ,<-dQ];exact e));have HF:=jq (show r=false by rw[<-HR.out];simp[h1]);clear h1 tt;go_enter func63,ntmps63;go_wp2_with fail;go_ret;exact⟨ae HF.out.symm,aZ.out⟩
 case pos=>
  subst h1;by_cases h2:t1=t2
  case neg=>
   have h2':(t1 != t2)=true:=by simpa using h2
   have HF:=jq (show r=false by rw[<-HR.out];simp[h2]);clear h2 tt;go_enter func63,ntmps63;go_wp2_with fail;go_ret;exact⟨ae HF.out.symm,aZ.out⟩
  case pos=>
   subst h2;by_cases h3:l1=l2
   case neg=>
    have h3':(l1 != l2)=true:=by simpa using h3
    have HF:=jq (show r=false by rw[<-HR.out];simp[h3]);clear h3 tt;go_enter func63,ntmps63;go_wp2_with fail;go_ret;exact⟨ae HF.out.symm,aZ.out⟩
   case pos=>
    subst h3;by_cases h4:d1.length=d2.length
    case neg=>
     have h4':((d1.length:Int) != (d2.length:Int))=true:=by rw[tt];simp;omega
     have HF:=jq (show r=false by rw[<-HR.out];simp;intro e;exact h4 (by rw[e]));clear h4 tt;go_enter func63,ntmps63;go_wp2_with fail;go_ret;exact⟨ae HF.out.symm,aZ.out⟩
    case pos=>
     have h4':((d1.length:Int) != (d2.length:Int))=false:=by rw[tt];simp;omega
     have HL:=jq h4;clear h4 tt;go_enter func63,ntmps63;go_wp2_with fail;have ap:((w.alloc (.cells #[.string s1,.int .i64 t1,.int .i64 l1,.slice A1 d1.length c1] 26)).alloc (.cells #[.string s1,.int .i64 t1,.int .i64 l1,.slice A2 d2.length c2] 26)).heap.size=w.heap.size+1+1:=by simp
     have q1:((w.alloc (.cells #[.string s1,.int .i64 t1,.int .i64 l1,.slice A1 d1.length c1] 26)).alloc (.cells #[.string s1,.int .i64 t1,.int .i64 l1,.slice A2 d2.length c2] 26)).cell? ⟨w.heap.size,3,none⟩=some (.slice A1 d1.length c1):=by simp[go_sem]
     have q2:((w.alloc (.cells #[.string s1,.int .i64 t1,.int .i64 l1,.slice A1 d1.length c1] 26)).alloc (.cells #[.string s1,.int .i64 t1,.int .i64 l1,.slice A2 d2.length c2] 26)).cell? ⟨w.heap.size+1,3,none⟩=some (.slice A2 d2.length c2):=by simp[go_sem]
     generalize pZ:((w.alloc (.cells #[.string s1,.int .i64 t1,.int .i64 l1,.slice A1 d1.length c1] 26)).alloc (.cells #[.string s1,.int .i64 t1,.int .i64 l1,.slice A2 d2.length c2] 26))=wa at *;have HQ:=jq (And.intro q1 (And.intro q2 ap));clear pZ q1 q2 ap;go_loopw [5] (λi wr=>∃ k:Nat,k<=d1.length/\i = .int .i64 k/\Hid (d1.take k=d2.take k)/\Hid (Below wa.heap.size wa wr)) (λi _=>d1.length - (intOf i).toNat)
     case atStart=>exact⟨0,jQ _,rfl,jq rfl,jq (vQ _ _)⟩
     case round=>
      obtain⟨k,hk,rfl,HN,HB⟩:=hrel;have aG:=aZ.out.trans (HB.out.mono aZ.out.size);have pS:=HQ.out;have g1:=(cl HB.out (by omega)).trans pS.1;have g2:=(cl HB.out (by omega)).trans pS.2.1;clear pS;by_cases aa:k<d1.length
      ·have vd:k<d2.length:=by have:=HL.out;omega
       obtain⟨b,o,c',s,hv,bG,_,bi,_,e0,e1,e2⟩:=AR wu.out (aQ aa);simp only[Value.slice.injEq,true_and] at hv;obtain⟨rfl,rfl⟩:=hv;obtain⟨b',o',c'',s',hv,uO,_,gX,_,f0,f1,f2⟩:=AR jK.out (aQ vd);simp only[Value.slice.injEq,true_and] at hv;obtain⟨rfl,rfl⟩:=hv;have HT:=jq (RT aa vd HN.out);have ko:=jq (show d1[k]≠d2[k]->r=false from λhne=>by rw[<-HR.out];simp;intro e;subst e;exact hne rfl);generalize d1[k]=x at *;generalize d2[k]=y at *;replace e0:=(aG.cell (p:=⟨b,o+k * 3,none⟩) bG).trans e0;replace e1:=(aG.cell (p:=⟨b,o+k * 3+1,none⟩) bG).trans e1;replace e2:=(aG.cell (p:=⟨b,o+k * 3+2,none⟩) bG).trans e2;replace f0:=(aG.cell (p:=⟨b',o'+k * 3,none⟩) uO).trans f0;replace f1:=(aG.cell (p:=⟨b',o'+k * 3+1,none⟩) uO).trans f1;replace f2:=(aG.cell (p:=⟨b',o'+k * 3+2,none⟩) uO).trans f2;have bO:(0:Int)<=(k:Int):=by omega
       have bM:(k:Int)<(d1.length:Int):=by omega
       have iR:(k:Int)<(d2.length:Int):=by omega
       have heq:=WI s s' x.n x.m y.n y.m;rw[R2 bi gX] at heq;clear aG bi gX;by_cases hx:x=y
       ·have HX:=jq hx;have jG:decide (x≠y)=false:=by simpa using hx
        rw[jG] at heq;clear hx jG;go_wp2_with fail;go_quiet (fail);go_wp2_with fail;go_roundw
        case rel=>exact⟨k+1,by omega,by go_num,jq (HT.out HX.out),jq (below_drewN HB.out _)⟩
        case measure=>simp[intOf] <;> omega
       ·have HX:=jq hx;have jG:decide (x≠y)=true:=by simpa using hx
        rw[jG] at heq;clear hx jG;go_wp2_with fail;go_quiet (fail);go_wp2_with fail;go_ret;exact⟨ae (ko.out HX.out).symm,below_drewN (aZ.out.trans (HB.out.mono aZ.out.size)) _⟩
      ·go_wp2_with fail;go_ret;refine⟨ae ?_,aZ.out.trans (HB.out.mono aZ.out.size)⟩;rw[<-HR.out]
       have:=RS HL.out aa HN.out
       simp[this]
end
namespace Np
def Stop(y:List UInt8):Prop:=y = []\/∃ c r,y=c::r/\qc c=false
def Lx(x:List UInt8)(ts:List Tok)(free:Bool):Prop:=
 ∀ (y:List UInt8) (p k:Nat),(free=true\/Stop y)->k<=2000->
   (k+ts.length<=2000->∃ ts',ts'.map AP=ts.map AP/\mF (x++y) p k=(ts'++(mF y (p+x.length) (k+ts.length)).1,(mF y (p+x.length) (k+ts.length)).2))/\
   (2000<k+ts.length->(mF (x++y) p k).2.1=2)
theorem Lx.weaken{x:List UInt8}{ts:List Tok}{f:Bool}(h:Lx x ts f):Lx x ts false:=λy p k hy hk=>
 h y p k (.inr (by rcases hy with hy | hy;cases hy;exact hy)) hk
theorem Ww:∀ (s:List UInt8) (c:UInt8),c∈s->c=46\/∃ x∈aO s,c∈x:=by
 intro s
 induction s with
 | nil=>intro c h;cases h
 | cons a r ih=>
  intro c hc;rw[aO];by_cases ha:a=46
  ·rw[Qb ha];rcases List.mem_cons.1 hc with e | e
   ·exact .inl (e.trans ha)
   ·rcases ih c e with h | ⟨x,hx,BA⟩
    ·exact .inl h
    ·exact .inr ⟨x,mQ _ hx,BA⟩
  ·rw[Qc ha];have hne:=oS r
   cases hr:aO r with
   | nil=>exact absurd hr hne
   | cons y ys=>
    rw[hr] at ih;rcases List.mem_cons.1 hc with e | e
    ·exact .inr ⟨a::y,by simp,by simp[e]⟩
    ·rcases ih c e with h | ⟨x,hx,BA⟩
     ·exact .inl h
     ·rcases List.mem_cons.1 hx with rfl | hx
      ·exact .inr ⟨a::x,by simp,by simp[BA]⟩
      ·exact .inr ⟨x,by simp[hx],BA⟩
theorem V9{c:UInt8}(h:lv c=true):qc c=true:=by
 unfold lv at h;have hl:∀ c:UInt8,oJ c=true\/l4 c=true->cls c=3:=by
  intro c h;have hne:¬ (c=32\/c=9\/c=10)/\c≠35:=by
   constructor
   ·rintro (rfl | rfl | rfl) <;> revert h <;> decide
   ·rintro rfl;revert h;decide
  unfold cls;rw[Qc hne.1,Qc hne.2,Qb (by rcases h with h | h <;> simp[h])]
 simp only[Bool.or_eq_true,beq_iff_eq] at h;unfold qc;rcases h with h | h
 ·rw[hl c h];rfl
 ·subst h;decide
theorem Ws{c:UInt8}(h:oJ c=true\/l4 c=true):cls c=3:=by
 have hne:¬ (c=32\/c=9\/c=10)/\c≠35:=by
  constructor
  ·rintro (rfl | rfl | rfl) <;> revert h <;> decide
  ·rintro rfl;revert h;decide
 unfold cls;rw[Qc hne.1,Qc hne.2,Qb (by rcases h with h | h <;> simp[h])]
theorem Wb{x:List UInt8}(h:bS x=true\/x = [42]):∀ c∈x,qc c=true:=by
 rcases h with h | rfl
 ·unfold bS at h;simp only[Bool.and_eq_true] at h;exact λc hc=>V9 (List.all_eq_true.1 h.2 c hc)
 ·intro c hc;simp at hc;subst hc;decide
theorem Wc{x:List UInt8}(h:bS x=true\/x = [42]):∃ c r,x=c::r/\cls c=3:=by
 rcases h with h | rfl
 ·unfold bS at h;simp only[Bool.and_eq_true,Qa,Bool.not_eq_true',beq_eq_false_iff_ne] at h
  cases x with
  | nil=>simp at h
  | cons c r=>
   refine⟨c,r,rfl,Ws ?_⟩;have h1:=List.all_eq_true.1 h.2 c (by simp);have h2:=h.1.1.2;simp only[List.head?_cons,ne_eq,Option.some.injEq] at h2;simp only[lv,Bool.or_eq_true,beq_iff_eq] at h1;rcases h1 with h1 | h1
   ·exact h1
   ·exact absurd h1 h2
 ·exact⟨42,[],rfl,by decide⟩
theorem GH:∀ (s:List UInt8),∃ h t,aO s=h::t/\(∀ c r,h=c::r->∃ r',s=c::r'):=by
 intro s
 cases s with
 | nil=>exact⟨[],[],rfl,λc r h=>by cases h⟩
 | cons a r=>
  rw[aO];by_cases ha:a=46
  ·rw[Qb ha];exact⟨[],_,rfl,λc r h=>by cases h⟩
  ·rw[Qc ha];have hne:=oS r
   cases hr:aO r with
   | nil=>exact absurd hr hne
   | cons x xs=>exact⟨a::x,xs,rfl,λc r' h=>by cases h;exact⟨_,rfl⟩⟩
theorem vx{s:List UInt8}(h:aC s=true):s.length<=60/\(s = [46]\/∃ c r,s=c::r/\cls c=3/\s.all qc=true):=by
 unfold aC at h;split at h
 ·rename_i e;subst e;exact⟨by decide,.inl rfl⟩
 ·split at h
  ·cases h
  ·rename_i Bb;have hg:=J6 _ _ _ h;have hl:∀ x∈aO s,bS x=true\/x = [42]:=λx hx=>(hg x (List.mem_reverse.2 hx)).symm;obtain⟨a,t,e1,e2⟩:=GH s;obtain⟨c,r,rfl,hc⟩:=Wc (hl a (by rw[e1];simp));obtain⟨r',rfl⟩:=e2 c r rfl;refine⟨by omega,.inr ⟨c,r',rfl,hc,List.all_eq_true.2 λb hb=>?_⟩⟩;rcases Ww _ b hb with rfl | ⟨x,hx,eF⟩
   ·decide
   ·exact Wb (hl x hx) b eF
theorem JP{k:Nat}(h:k<10):l4 (UInt8.ofNat (48+k))=true/\(UInt8.ofNat (48+k)).toNat=48+k:=by
 have:k=0\/k=1\/k=2\/k=3\/k=4\/k=5\/k=6\/k=7\/k=8\/k=9:=by omega
 rcases this with rfl | rfl | rfl | rfl | rfl | rfl | rfl | rfl | rfl | rfl <;> exact⟨by decide,by decide⟩
theorem Ew(n:Nat):(lK n).all l4=true/\lK n≠[]/\dec (lK n)=n/\(1<=n->(lK n).head?≠some 48)/\(n<10->(lK n).length=1):=by
 induction n using Nat.strongRecOn with
 | ind n ih=>
  rw[lK];split
  ·rename_i h;have hd:=JP h;refine⟨by rw[List.all_cons,hd.1];rfl,by simp,by show 10 * 0+((UInt8.ofNat (48+n)).toNat - 48)=n;rw[hd.2];omega,λh1=>?_,λ_=>rfl⟩;simp only[List.head?_cons,ne_eq,Option.some.injEq];intro e
   have:=Qd UInt8.toNat e
   rw[hd.2] at this;simp at this;omega
  ·rename_i h;obtain⟨i1,i2,i3,i4,_⟩:=ih (n / 10) (by omega);have hd:=JP (k:=n % 10) (by omega);refine⟨by rw[List.all_append,i1,List.all_cons,hd.1];rfl,by simp,?_,λ_=>?_,λh2=>absurd h2 h⟩
   ·rw[R4,i3,hd.2];omega
   ·rw[TP i2];exact i4 (by omega)
def aR(n:Int):List UInt8:=lK n.toNat
def oh(d:Datum):List (List UInt8):=[d.text,aR d.n,aR d.m]
def qi(g:Sig):List (List UInt8):=[g.zone,aR g.key,aR g.alg,aR g.frm,aR g.til,aR g.sum]
def uE(s:Signed):List (List UInt8):=[s.set.name,aR s.set.type,aR s.set.life,aR s.set.data.length]++(s.set.data.flatMap oh++s.sigs.flatMap qi)
def bN(l:List (List UInt8)):List UInt8:=l.flatMap λf=>f ++ [47]
def dC(s:Signed):List UInt8:=bN (uE s)
theorem NI:∀ (x y r q:List UInt8),47∉x->47∉y->x++47::r=y++47::q->x=y/\r=q
 | [],[],r,q,_,_,h=>⟨rfl,by simpa using h⟩
 | [],b::y,r,q,_,hy,h=>by
   simp only[List.nil_append,List.cons_append,List.cons.injEq] at h;exact absurd (h.1 ▸ List.mem_cons_self) hy
 | a::x,[],r,q,hx,_,h=>by
   simp only[List.nil_append,List.cons_append,List.cons.injEq] at h;exact absurd (h.1 ▸ List.mem_cons_self) hx
 | a::x,b::y,r,q,hx,hy,h=>by
   simp only[List.cons_append,List.cons.injEq] at h;obtain⟨h1,h2⟩:=NI x y r q (λhm=>hx (mQ _ hm)) (λhm=>hy (mQ _ hm)) h.2;exact⟨by rw[h.1,h1],h2⟩
theorem uD(f:List UInt8)(l:List (List UInt8)):bN (f::l)=f++47::bN l:=by simp[bN]
theorem JQ:∀ (a b:List (List UInt8)),(∀ x∈a,47∉x)->(∀ x∈b,47∉x)->bN a=bN b->a=b
 | [],[],_,_,_=>rfl
 | [],f::b,_,_,h=>by rw[uD] at h;simp[bN] at h
 | f::a,[],_,_,h=>by rw[uD] at h;simp[bN] at h
 | f::a,g::b,ha,hb,h=>by
   rw[uD,uD] at h;obtain⟨h1,h2⟩:=NI f g _ _ (ha f (by simp)) (hb g (by simp)) h;rw[h1,JQ a b (λx hx=>ha x (mQ _ hx)) (λx hx=>hb x (mQ _ hx)) h2]
theorem om{a b:Int}(ha:0<=a)(hb:0<=b)(h:aR a=aR b):a=b:=by
 have h1:=(Ew a.toNat).2.2.1;have h2:=(Ew b.toNat).2.2.1;unfold aR at h;rw[h] at h1;omega
theorem oq(a:Int):47∉aR a:=λhm=>by
 have h1:=(Ew a.toNat).1
 have:=List.all_eq_true.1 h1 47 hm
 revert this;decide
structure Plain47(s:Signed):Prop where
 name:47∉s.set.name
 type:0<=s.set.type
 life:0<=s.set.life
 data:∀ d∈s.set.data,47∉d.text/\0<=d.n/\0<=d.m
 sigs:∀ g∈s.sigs,47∉g.zone/\0<=g.key/\0<=g.alg/\0<=g.frm/\0<=g.til/\0<=g.sum
theorem Plain47.fields{s:Signed}(h:Plain47 s):∀ x∈uE s,47∉x:=λx hx=>by
 unfold uE at hx;rcases List.mem_append.1 hx with hx | hx
 ·simp only[List.mem_cons,Qh,or_false] at hx;rcases hx with rfl | rfl | rfl | rfl
  ·exact h.name
  ·exact oq _
  ·exact oq _
  ·exact oq _
 ·rcases List.mem_append.1 hx with hx | hx
  ·obtain⟨d,hd,hx⟩:=List.mem_flatMap.1 hx;simp only[oh,List.mem_cons,Qh,or_false] at hx;rcases hx with rfl | rfl | rfl
   ·exact (h.data d hd).1
   ·exact oq _
   ·exact oq _
  ·obtain⟨g,hg,hx⟩:=List.mem_flatMap.1 hx;simp only[qi,List.mem_cons,Qh,or_false] at hx;rcases hx with rfl | rfl | rfl | rfl | rfl | rfl
   ·exact (h.sigs g hg).1
   ·exact oq _
   ·exact oq _
   ·exact oq _
   ·exact oq _
   ·exact oq _
theorem JN:∀ (a b:List Datum) (r q:List (List UInt8)),a.length=b.length->(∀ d∈a,0<=d.n/\0<=d.m)->(∀ d∈b,0<=d.n/\0<=d.m)->a.flatMap oh++r=b.flatMap oh++q->a=b/\r=q
 | [],[],r,q,_,_,_,h=>⟨rfl,by simpa using h⟩
 | [],_::_,_,_,hl,_,_,_=>by simp at hl
 | _::_,[],_,_,hl,_,_,_=>by simp at hl
 | x::a,y::b,r,q,hl,ha,hb,h=>by
   simp only[List.flatMap_cons,oh,List.cons_append,List.nil_append,List.cons.injEq] at h;obtain⟨h1,h2,h3,h4⟩:=h;obtain⟨h5,h6⟩:=JN a b r q (by simpa using hl) (λd hd=>ha d (mQ _ hd)) (λd hd=>hb d (mQ _ hd)) h4;have hx:=ha x (by simp);have hy:=hb y (by simp);have e:x=y:=by
    obtain⟨_,_,_⟩:=x;obtain⟨_,_,_⟩:=y;simp only at h1 h2 h3 hx hy;rw[h1,om hx.1 hy.1 h2,om hx.2 hy.2 h3]
   exact⟨by rw[e,h5],h6⟩
theorem NG:∀ (a b:List Sig),(∀ g∈a,0<=g.key/\0<=g.alg/\0<=g.frm/\0<=g.til/\0<=g.sum)->(∀ g∈b,0<=g.key/\0<=g.alg/\0<=g.frm/\0<=g.til/\0<=g.sum)->a.flatMap qi=b.flatMap qi->a=b
 | [],[],_,_,_=>rfl
 | [],_::_,_,_,h=>by simp[qi] at h
 | _::_,[],_,_,h=>by simp[qi] at h
 | x::a,y::b,ha,hb,h=>by
   simp only[List.flatMap_cons,qi,List.cons_append,List.nil_append,List.cons.injEq] at h;obtain⟨h1,h2,h3,h4,h5,h6,h7⟩:=h;have hx:=ha x (by simp);have hy:=hb y (by simp);have e:x=y:=by
    obtain⟨_,_,_,_,_,_⟩:=x;obtain⟨_,_,_,_,_,_⟩:=y;simp only at h1 h2 h3 h4 h5 h6 hx hy;rw[h1,om hx.1 hy.1 h2,om hx.2.1 hy.2.1 h3,om hx.2.2.1 hy.2.2.1 h4,om hx.2.2.2.1 hy.2.2.2.1 h5,om hx.2.2.2.2 hy.2.2.2.2 h6]
   rw[e,NG a b (λg hg=>ha g (mQ _ hg)) (λg hg=>hb g (mQ _ hg)) h7]
theorem Gc{s t:Signed}(hs:Plain47 s)(ht:Plain47 t)(h:dC s=dC t):s=t:=by
 have h:=JQ _ _ hs.fields ht.fields h;unfold uE at h;simp only[List.cons_append,List.nil_append,List.cons.injEq] at h;obtain⟨h1,h2,h3,h4,h5⟩:=h;have e4:=om (by omega) (by omega) h4;obtain⟨h6,h7⟩:=JN _ _ _ _ (by omega) (λd hd=>(hs.data d hd).2) (λd hd=>(ht.data d hd).2) h5;have h8:=NG _ _ (λg hg=>(hs.sigs g hg).2) (λg hg=>(ht.sigs g hg).2) h7;have e2:=om hs.type ht.type h2;have e3:=om hs.life ht.life h3;obtain⟨⟨_,_,_,_⟩,_⟩:=s;obtain⟨⟨_,_,_,_⟩,_⟩:=t;simp only at h1 e2 e3 h6 h8;rw[h1,e2,e3,h6,h8]
def ux(s:Signed):Prop:=∀ g∈s.sigs,0<=g.sum/\g.sum<18446744073709551616
def jo(h:Hist):Prop:=∀ c∈h.copies,∀ s∈c.zone.sets,ux s
theorem YE{c:UInt8}(h:qc c=true):c≠47:=by rintro rfl;revert h;decide
theorem Cc{l:List UInt8}(h:aC l=true):47∉l:=λhm=>by
 obtain⟨_,rfl | ⟨c,r,rfl,_,hr⟩⟩:=vx h
 ·revert hm;decide
 ·exact YE (List.all_eq_true.1 hr 47 hm) rfl
theorem SB{l:List UInt8}(h:iY l=true):47∉l:=λhm=>by
 unfold iY at h;simp only[Bool.and_eq_true] at h
 have:=List.all_eq_true.1 h.2 47 hm
 revert this;decide
theorem Zf{k:Int}{l:List UInt8}(h:tU k l=true):47∉l:=by
 unfold tU at h;split at h
 ·simp only[Bool.and_eq_true] at h;exact Cc h.1
 ·split at h
  ·exact Cc h
  ·split at h
   ·exact SB h
   ·have:l = []:=by simpa using h
    rw[this];simp
theorem Nq(k:Int):0<=(bH k).leastN/\0<=(bH k).leastM:=by
 unfold bH;generalize k.toNat=n;by_cases h:n<9
 ·have:∀ m,m<9->0<=(rules.getD m ⟨0,0,0,0,0,false,false,false⟩).leastN/\0<=(rules.getD m ⟨0,0,0,0,0,false,false,false⟩).leastM:=by decide
  exact this n h
 ·have e:rules[n]?=none:=List.getElem?_eq_none (by simp[rules];omega);rw[List.getD_eq_getElem?_getD,e];decide
theorem R3{k:Int}{d:Datum}(h:je (bH k) d=true):47∉d.text/\0<=d.n/\0<=d.m:=by
 unfold je at h;simp only[Bool.and_eq_true,Qa] at h;obtain⟨⟨⟨⟨h1,_⟩,h2,_⟩,_⟩,h3⟩:=h
 have:=Nq k
 exact⟨Zf h3,by omega,by omega⟩
theorem zH{z:Zone}(v:VZone z):aC z.apex=true/\∀ x∈z.sets,cW x.set=true:=by
 have h:=v.right;unfold dZ at h;simp only[Bool.and_eq_true] at h;exact⟨h.1.1,AZ h.2⟩
theorem G4{z:Zone}(v:VZone z){x:Signed}(hx:x∈z.sets)(hs:ux x):Plain47 x:=by
 obtain⟨ha,hv⟩:=zH v;obtain⟨h1,h2,h3,h4,h5,h6,h7,h8⟩:=tV (hv x hx);refine⟨Cc h1,by omega,h4,λd hd=>R3 (EF h8 d hd),λg hg=>?_⟩;obtain⟨i,hi⟩:=List.mem_iff_getElem?.1 hg
 have:=(v.form x hx).2 i g hi
 exact⟨by rw[this.zone];exact Cc ha,by have:=this.key;omega,by have:=this.alg;omega,this.win.1,by have:=this.win;omega,(hs g hg).1⟩
def l5(us:List Signed):List (List UInt8×Value):=us.zipIdx.map λp=>(dC p.1,.int .i64 ((p.2:Nat):Int))
theorem V5(us:List Signed)(s:Signed):l5 (us ++ [s])=l5 us ++ [(dC s,.int .i64 ((us.length:Nat):Int))]:=by
 unfold l5;rw[List.zipIdx_append,List.map_append];simp
theorem Md:∀ (us:List Signed) (n:Nat) (s:Signed),Plain47 s->(∀ x∈us,Plain47 x)->s∉us->((us.zipIdx n).map λp=>(dC p.1,Value.int .i64 ((p.2:Nat):Int))).lookup (dC s)=none
 | [],_,_,_,_,_=>rfl
 | x::us,n,s,hs,hu,hn=>by
   rw[List.zipIdx_cons,List.map_cons,List.lookup_cons];have hne:(dC s == dC x)=false:=by
    rw[beq_eq_false_iff_ne];intro e;exact hn (by rw[Gc hs (hu x (by simp)) e];simp)
   rw[hne];exact Md us (n+1) s hs (λy hy=>hu y (mQ _ hy)) (λh=>hn (mQ _ h))
theorem V4{us:List Signed}{s:Signed}(hs:Plain47 s)(hu:∀ x∈us,Plain47 x)(hn:s∉us):(l5 us).lookup (dC s)=none:=Md us 0 s hs hu hn
theorem Me:∀ (us:List Signed) (n:Nat) (s:Signed) (i:Nat),Plain47 s->(∀ x∈us,Plain47 x)->us.Nodup->us[i]?=some s->((us.zipIdx n).map λp=>(dC p.1,Value.int .i64 ((p.2:Nat):Int))).lookup (dC s)=some (.int .i64 ((n+i:Nat):Int))
 | [],_,_,_,_,_,_,h=>by simp at h
 | x::us,n,s,i,hs,hu,hd,h=>by
   rw[List.zipIdx_cons,List.map_cons,List.lookup_cons]
   cases i with
   | zero=>
    have e:x=s:=by simpa using h
    subst e;simp
   | succ i=>
    have h':us[i]?=some s:=by simpa using h
    have hne:(dC s == dC x)=false:=by
     rw[beq_eq_false_iff_ne];intro e
     have:=Gc hs (hu x (by simp)) e
     subst this;exact (List.nodup_cons.1 hd).1 (gQ h')
    rw[hne]
    have:=Me us (n+1) s i hs (λy hy=>hu y (mQ _ hy)) (List.nodup_cons.1 hd).2 h'
    rw[show n+(i+1)=n+1+i by omega];exact this
theorem V6{us:List Signed}{s:Signed}{i:Nat}(hs:Plain47 s)(hu:∀ x∈us,Plain47 x)(hd:us.Nodup)(h:us[i]?=some s):(l5 us).lookup (dC s)=some (.int .i64 ((i:Nat):Int)):=by
 have:=Me us 0 s i hs hu hd h
 rwa [Nat.zero_add] at this
def dN(ps:List (Span×Signed)):List (Signed×List Span):=(cE (ps.map (·.2))).map λs=>(s,fq ps s)
theorem Wx(ps:List (Span×Signed)):(dN ps).map (·.1)=cE (ps.map (·.2)):=by
 unfold dN;rw[List.map_map];exact List.map_id'' (λ_=>rfl) _
theorem Wy(f:List Span->List Span)(zone:List UInt8)(ps:List (Span×Signed)):uS f zone ps=(dN ps).map λx=>⟨zone,x.1,f x.2,[]⟩:=by
 unfold uS dN;rw[List.map_map];rfl
theorem WA{ps:List (Span×Signed)}{p:Span×Signed}(h:p.2∉cE (ps.map (·.2))):dN (ps ++ [p])=dN ps ++ [(p.2,[p.1])]:=by
 have hn:p.2∉ps.map (·.2):=λhm=>h (tJ.2 hm);unfold dN;rw[List.map_append,List.map_singleton,zG,jp,Qc h,List.map_append];congr 1
 ·refine List.map_congr_left λs hs=>?_;rw[CD,Qc (show ¬ p.2=s from λe=>h (by rw[e];exact hs))]
 ·simp[CD,Zi hn]
theorem WB{ps:List (Span×Signed)}{p:Span×Signed}{i:Nat}(h:(cE (ps.map (·.2)))[i]?=some p.2):dN (ps ++ [p])=(dN ps).set i (p.2,fq ps p.2 ++ [p.1]):=by
 obtain⟨hi,he⟩:=cQ.1 h;have hm:p.2∈cE (ps.map (·.2)):=by rw[<-he];exact List.getElem_mem _
 have oz:=tK (ps.map (·.2));have hu:cE ((ps ++ [p]).map (·.2))=cE (ps.map (·.2)):=by rw[List.map_append,List.map_singleton,zG,Ej hm]
 refine List.ext_getElem? λj=>?_;rw[List.getElem?_set];unfold dN;rw[hu,List.getElem?_map,List.getElem?_map,List.length_map];by_cases dp:i=j
 ·subst dp;rw[Qb rfl,Qb hi,h,Option.map_some,CD,Qb rfl]
 ·rw[Qc dp]
  cases hj:(cE (ps.map (·.2)))[j]? with
  | none=>rfl
  | some s=>
   obtain⟨rc,uY⟩:=cQ.1 hj;have hne:p.2≠s:=λe=>dp ((List.getElem_inj (h₀:=hi) (h₁:=rc) oz).1 (he.trans (e.trans uY.symm)));rw[Option.map_some,Option.map_some,CD,Qc hne]
theorem Wz(ps:List (Span×Signed)):(dN ps).length=(cE (ps.map (·.2))).length:=List.length_map _
theorem R5:∀ (k n:Nat),n<10 ^ (k+1)->(lK n).length<=k+1:=by
 intro k
 induction k with
 | zero=>intro n h;rw[lK,Qb (by simpa using h)];simp
 | succ k ih=>
  intro n h;rw[lK];split
  ·simp
  ·have:=ih (n / 10) (by rw[Nat.pow_succ] at h;omega)
   simp only[List.length_append,List.length_singleton];omega
def eu(x:Signed)(drift til:Int):Int:=
 match x.sigs with
 | []=>til - 1+max x.set.life 1+2 * drift
 | g::_=>min (til - 1+max x.set.life 1+2 * drift) (g.til+drift+1)
def js(x:Signed)(drift:Int)(s:Span):Span:=⟨s.frm,max s.til (eu x drift s.til)⟩
def kj(x:Held)(drift:Int):List Span:=f9 (x.fresh.map (js x.signed drift))
def pubAll(h:Hist):List Held:=(apexes h.copies).flatMap λz=>pub h.copies z
def cK(h:Hist):List Held:=(pubAll h).map λx=>{ x with spans:=kj x h.drift }
theorem SL{x:Signed}{d:Int}{l:List Span}(h:∀ s∈l,s.frm<s.til):∀ s∈l.map (js x d),s.frm<s.til:=λs hs=>by
 obtain⟨r,hr,rfl⟩:=List.mem_map.1 hs
 have:=h r hr
 show r.frm<max r.til (eu x d r.til);omega
theorem LZ{x:Held}{d t:Int}(h:∀ s∈x.fresh,s.frm<s.til):inS (kj x d) t↔∃ s∈x.fresh,s.frm<=t/\(t<s.til\/t<eu x.signed d s.til):=by
 unfold kj;rw[(Cd (SL h)).2];unfold inS;constructor
 ·rintro⟨s,hs,h1,h2⟩;obtain⟨r,hr,rfl⟩:=List.mem_map.1 hs;refine⟨r,hr,h1,?_⟩;have h3:t<max r.til (eu x.signed d r.til):=h2;omega
 ·rintro⟨r,hr,h1,h2⟩;refine⟨_,List.mem_map.2 ⟨r,hr,rfl⟩,h1,?_⟩;show t<max r.til (eu x.signed d r.til);omega
def sK(h:Hist)(t:Int)(s:Signed):Prop:=∃ x∈pubAll h,x.signed=s/\inS (kj x h.drift) t
theorem B9{h:Hist}{x:Held} : x∈pubAll h↔∃ z∈apexes h.copies,x∈pub h.copies z:=by
 unfold pubAll;rw[List.mem_flatMap]
theorem Gs{h:Hist}(hl:ix h.copies){t:Int}{s:Signed} : sK h t s↔∃ z,∃ x∈pub h.copies z,x.signed=s/\∃ r∈x.fresh,r.frm<=t/\(t<r.til\/t<eu s h.drift r.til):=by
 constructor
 ·rintro⟨x,hx,rfl,ht⟩;obtain⟨z,_,hz⟩:=B9.1 hx;obtain⟨_,_,m3,_⟩:=nO hl hz;exact⟨z,x,hz,rfl,(LZ m3.full).1 ht⟩
 ·rintro⟨z,x,hx,rfl,r,hr,ht⟩;obtain⟨_,_,m3,⟨c,hc,h1,_⟩,_⟩:=nO hl hx;refine⟨x,B9.2 ⟨z,?_,hx⟩,rfl,(LZ m3.full).2 ⟨r,hr,ht⟩⟩;rw[vw];exact⟨c,hc,h1⟩
theorem MM{h:Hist}(hl:ix h.copies){t:Int}{s:Signed}(k:sK h t s):∃ c∈h.copies,c.frm<=t/\s∈c.zone.sets/\(min t (c.til - 1)=t\/(t - min t (c.til - 1)<max 1 s.set.life+2 * h.drift/\∀ g r,s.sigs=g::r->t<=g.til+h.drift)):=by
 obtain⟨z,x,hx,rfl,r,hr,h1,h2⟩:=(Gs hl).1 k;obtain⟨_,_,m3,_,m5⟩:=nO hl hx;by_cases ht:t<r.til
 ·obtain⟨c,hc,_,k2,k3,k4⟩:=(m5 t).1 ⟨r,hr,h1,ht⟩;exact⟨c,hc,k3,k2,.inl (by omega)⟩
 ·have hf:=m3.full r hr;obtain⟨c,hc,_,k2,k3,k4⟩:=(m5 (r.til - 1)).1 ⟨r,hr,by omega,by omega⟩;have h3:t<eu x.signed h.drift r.til:=h2.resolve_left ht;refine⟨c,hc,by omega,k2,.inr ⟨?_,λg l e=>?_⟩⟩
  ·unfold eu at h3
   cases hs:x.signed.sigs with
   | nil=>rw[hs] at h3;dsimp only at h3;omega
   | cons g l=>rw[hs] at h3;dsimp only at h3;omega
  ·unfold eu at h3;rw[e] at h3;dsimp only at h3;omega
def vR(u:Int)(l:List Span):List Span:=(l.filter λs=>decide (s.frm<u)).map λs=>⟨s.frm,min s.til u⟩
theorem zi{u:Int}{l:List Span}{s:Span} : s∈vR u l↔∃ r∈l,r.frm<u/\s=⟨r.frm,min r.til u⟩:=by
 unfold vR;rw[List.mem_map];constructor
 ·rintro⟨r,hr,rfl⟩;obtain⟨h1,h2⟩:=List.mem_filter.1 hr;exact⟨r,h1,by simpa using h2,rfl⟩
 ·rintro⟨r,h1,h2,rfl⟩;exact⟨r,List.mem_filter.2 ⟨h1,by simpa using h2⟩,rfl⟩
theorem Zj{u:Int}{l:List Span}(h:ApartS l):ApartS (vR u l):=by
 refine⟨λs hs=>?_,?_⟩
 ·obtain⟨r,h1,h2,rfl⟩:=zi.1 hs
  have:=h.full r h1
  show r.frm<min r.til u;omega
 ·unfold vR;rw[List.pairwise_map];refine (h.apart.filter _).imp λ{a b} k=>?_;show min a.til u<b.frm;omega
theorem VI{u t:Int}{l:List Span} : inS (vR u l) t↔inS l t/\t<u:=by
 constructor
 ·rintro⟨s,hs,h1,h2⟩;obtain⟨r,h3,h4,rfl⟩:=zi.1 hs;have h5:t<min r.til u:=h2;exact⟨⟨r,h3,h1,by omega⟩,by omega⟩
 ·rintro⟨⟨r,h3,h1,h2⟩,h4⟩;refine⟨⟨r.frm,min r.til u⟩,zi.2 ⟨r,h3,by omega,rfl⟩,h1,?_⟩;show t<min r.til u;omega
theorem YS{l:List Copy}{u t:Int}{P:Zone->Prop} : (∃ c∈dF l u,P c.zone/\c.frm<=t/\t<c.til)↔(∃ c∈l,P c.zone/\c.frm<=t/\t<c.til)/\t<u:=by
 constructor
 ·rintro⟨c,hc,h1,h2,h3⟩;obtain⟨d,hd,rfl,_⟩:=rJ.1 hc;have h4:t<min d.til u:=h3;exact⟨⟨d,hd,h1,h2,by omega⟩,by omega⟩
 ·rintro⟨⟨d,hd,h1,h2,h3⟩,h4⟩;exact⟨_,rJ.2 ⟨d,hd,rfl,by omega⟩,h1,h2,by show t<min d.til u;omega⟩
theorem MV{l:List Copy}(hl:ix l){u:Int}{z:List UInt8}{x y:Held}(hx:x∈pub l z)(hy:y∈pub (dF l u) z)(e:y.signed=x.signed):y.fresh=vR u x.fresh:=by
 obtain⟨_,_,m3,_,m5⟩:=nO hl hx;obtain⟨_,_,n3,_,n5⟩:=nO (GA l u) hy;refine Em _ _ n3 (Zj m3) λt=>?_;rw[n5,VI,m5,e]
 have:=YS (l:=l) (u:=u) (t:=t) (P:=λw=>w.apex=z/\x.signed∈w.sets)
 simpa only[and_assoc] using this
theorem YR{l:List Copy}{u:Int}{z:List UInt8}{y:Held}(hy:y∈pub (dF l u) z):∃ x∈pub l z,x.signed=y.signed:=by
 obtain⟨_,_,_,⟨c,hc,h1,h2⟩,_⟩:=nO (GA l u) hy;obtain⟨d,hd,rfl,_⟩:=rJ.1 hc;exact MU ⟨d,hd,h1,h2⟩
theorem YQ{l:List Copy}(hl:ix l){u t:Int}{z:List UInt8}{x:Held}(hx:x∈pub l z)(ht:inS x.fresh t)(hu:t<u):∃ y∈pub (dF l u) z,y.signed=x.signed:=by
 obtain⟨_,_,_,_,m5⟩:=nO hl hx;obtain⟨c,hc,h1,h2,h3,h4⟩:=(m5 t).1 ht;exact MU ⟨_,rJ.2 ⟨c,hc,rfl,by omega⟩,h1,h2⟩
theorem Xh{h:Hist}(hl:ix h.copies){u t:Int}(hu:t<u){s:Signed} : sK (withC h (dF h.copies u)) t s↔sK h t s:=by
 rw[Gs (h:=withC h (dF h.copies u)) (GA _ _),Gs hl];constructor
 ·rintro⟨z,y,hy,rfl,r,hr,h1,h2⟩;obtain⟨x,hx,e⟩:=YR hy;rw[MV hl hx hy e.symm] at hr;obtain⟨q,hq,h3,rfl⟩:=zi.1 hr;refine⟨z,x,hx,e,q,hq,h1,?_⟩;by_cases h4:q.til<=u
  ·have e2:min q.til u=q.til:=by omega
   have h5:t<min q.til u\/t<eu y.signed h.drift (min q.til u):=h2;rwa [e2] at h5
  ·exact .inl (by omega)
 ·rintro⟨z,x,hx,rfl,r,hr,h1,h2⟩;obtain⟨_,_,m3,_,_⟩:=nO hl hx;have hf:=m3.full r hr;obtain⟨y,hy,e⟩:=YQ hl (u:=u) hx ⟨r,hr,Int.le_refl _,hf⟩ (by omega);refine⟨z,y,hy,e,⟨r.frm,min r.til u⟩,?_,h1,?_⟩
  ·rw[MV hl hx hy e];exact zi.2 ⟨r,hr,by omega,rfl⟩
  ·show t<min r.til u\/t<eu x.signed h.drift (min r.til u);by_cases h4:r.til<=u
   ·have e2:min r.til u=r.til:=by omega
    rw[e2];exact h2
   ·exact .inl (by omega)
def dP(l:List Held)(n:List UInt8)(ty t:Int):List Signed:=cE ((l.filter λx=>(x.signed.set.name == n)&&(decide (x.signed.set.type=ty)&&l1 x.spans t)).map (·.signed))
where l1 (sp:List Span) (t:Int):Bool:=sp.any λs=>decide (s.frm<=t)&&decide (t<s.til)
theorem Gd{sp:List Span}{t:Int} : dP.l1 sp t=true↔inS sp t:=by
 unfold dP.l1 inS;rw[List.any_eq_true];simp
theorem Gl{h:Hist}{n:List UInt8}{ty t:Int}{s:Signed} : s∈dP (cK h) n ty t↔sK h t s/\s.set.name=n/\s.set.type=ty:=by
 unfold dP cK;rw[tJ,List.mem_map];constructor
 ·rintro⟨x,hx,rfl⟩;obtain⟨h1,h2⟩:=List.mem_filter.1 hx;obtain⟨y,hy,rfl⟩:=List.mem_map.1 h1;rw[Bool.and_eq_true,Bool.and_eq_true,beq_iff_eq,Qa,Gd] at h2;exact⟨⟨y,hy,rfl,h2.2.2⟩,h2.1,h2.2.1⟩
 ·rintro⟨⟨y,hy,rfl,ht⟩,h1,h2⟩;refine⟨{ y with spans:=kj y h.drift },List.mem_filter.2 ⟨List.mem_map.2 ⟨y,hy,rfl⟩,?_⟩,rfl⟩;rw[Bool.and_eq_true,Bool.and_eq_true,beq_iff_eq,Qa,Gd];exact⟨h1,h2,ht⟩
theorem MJ(c:Copy)(z:List UInt8):(cV [c] z).length=if c.zone.apex=z then c.zone.sets.length else 0:=by
 unfold cV sS;rw[List.filter_cons,List.filter_nil];by_cases h:c.zone.apex=z
 ·have hb:(c.zone.apex == z)=true:=by rw[h];simp
  rw[Qb h,hb,Qb rfl];simp[mG]
 ·have hb:(c.zone.apex == z)=false:=by simpa using h
  rw[Qc h,hb];simp
theorem MK(c:Copy):∀ zs:List (List UInt8),zs.Nodup->(zs.map λz=>(cV [c] z).length).sum<=c.zone.sets.length
 | [],_=>by simp
 | z::zs,h=>by
   obtain⟨h1,h2⟩:=List.nodup_cons.1 h;rw[List.map_cons,List.sum_cons,MJ];by_cases e:c.zone.apex=z
   ·rw[Qb e];have h0:(zs.map λz=>(cV [c] z).length).sum=0:=by
     rw[List.sum_eq_zero_iff_forall_eq_nat];intro n hn;obtain⟨y,hy,rfl⟩:=List.mem_map.1 hn;rw[MJ,Qc (λe2=>h1 (by rw[<-e,e2];exact hy))]
    omega
   ·rw[Qc e,Nat.zero_add];exact MK c zs h2
theorem NT{α:Type}(f g:α->Nat):∀ l:List α,(l.map λx=>f x+g x).sum=(l.map f).sum+(l.map g).sum
 | []=>rfl
 | x::l=>by
   have:=NT f g l
   simp only[List.map_cons,List.sum_cons];omega
theorem MH{n:Nat} : ∀ (l:List Copy),(∀ c∈l,c.zone.sets.length<=n)->∀ zs:List (List UInt8),zs.Nodup->(zs.map λz=>(cV l z).length).sum<=l.length * n
 | [],_,zs,_=>by
   have:(zs.map λz=>(cV [] z).length).sum=0:=by
    rw[List.sum_eq_zero_iff_forall_eq_nat];intro n hn;obtain⟨y,hy,rfl⟩:=List.mem_map.1 hn;rfl
   omega
 | c::l,h,zs,hz=>by
   have h1:=MH l (λd hd=>h d (mQ _ hd)) zs hz;have h2:=MK c zs hz;have h3:=h c (by simp);have e:(zs.map λz=>(cV (c::l) z).length)=zs.map λz=>(cV [c] z).length+(cV l z).length:=by
    refine List.map_congr_left λz _=>?_
    have:=MI [c] l z
    rw[List.singleton_append] at this;rw[this,List.length_append]
   rw[e,NT,List.length_cons,Nat.add_mul,Nat.one_mul];omega
theorem Xy(l:List Copy)(z:List UInt8):(pub l z).length<=(cV l z).length:=by
 unfold pub;rw[TU]
 have:=rM ((cV l z).map (·.2))
 rwa [List.length_map] at this
theorem NU{α:Type}{f g:α->Nat}(h:∀ x,f x<=g x):∀ l:List α,(l.map f).sum<=(l.map g).sum
 | []=>bQ _
 | x::l=>by
   have:=NU h l
   have:=h x
   simp only[List.map_cons,List.sum_cons];omega
theorem Q6(l:List Copy):(apexes l).Nodup:=by
 unfold apexes;exact (CB _).nodup_iff.2 (tK _)
def pubTo(h:Hist)(k:Nat):List Held:=((apexes h.copies).take k).flatMap λz=>pub h.copies z
theorem Xv{h:Hist}{k:Nat}{z:List UInt8}(hz:(apexes h.copies)[k]?=some z):pubTo h (k+1)=pubTo h k++pub h.copies z:=by
 obtain⟨hl,he⟩:=cQ.1 hz;unfold pubTo;rw[fQ hl,he,List.flatMap_append];simp
theorem MR{h:Hist}{k:Nat}(hk:(apexes h.copies).length<=k):pubTo h k=pubAll h:=by
 unfold pubTo pubAll;rw[kQ hk]
theorem MS{h:Hist}{n m:Nat}(hn:∀ c∈h.copies,c.zone.sets.length<=n)(hm:h.copies.length<=m)(k:Nat):(pubTo h k).length<=m * n:=by
 unfold pubTo;rw[List.length_flatMap];refine yQ (NU (λz=>Xy h.copies z) _) (yQ (MH h.copies hn _ ((Q6 _).sublist (List.take_sublist _ _))) (Nat.mul_le_mul_right n hm))
theorem Xr{h:Hist}{n m:Nat}(hn:∀ c∈h.copies,c.zone.sets.length<=n)(hm:h.copies.length<=m):(pubAll h).length<=m * n:=by
 rw[<-MR (bQ _)];exact MS hn hm _
def mq(d:Int)(l:List Held)(k:Nat):List Held:=(l.take k).map (λx=>{ x with spans:=kj x d })++l.drop k
theorem Q1(d:Int)(l:List Held)(k:Nat):(mq d l k).length=l.length:=by
 unfold mq;rw[List.length_append,List.length_map,<-List.length_append,List.take_append_drop]
theorem Jl{d:Int}{l:List Held}{k:Nat}{x:Held}(hx:l[k]?=some x):(mq d l k)[k]?=some x:=by
 have hl:=(cQ.1 hx).1;unfold mq;rw[oQ (by simp;omega),List.length_map,List.length_take,Nat.min_eq_left (by omega),Nat.sub_self,List.getElem?_drop,Nat.add_zero];exact hx
theorem Q2{d:Int}{l:List Held}{k:Nat}{x:Held}(hx:l[k]?=some x):(mq d l k).set k { x with spans:=kj x d } = mq d l (k+1):=by
 obtain⟨hl,he⟩:=cQ.1 hx;unfold mq;have hn:((l.take k).map λx:Held=>{ x with spans:=kj x d }).length=k:=by simp;omega
 rw[List.set_append_right _ _ (by omega),hn,Nat.sub_self,fQ hl,he,List.map_append,List.append_assoc];congr 1;rw[<-List.getElem_cons_drop hl,he];rfl
theorem Q0{h:Hist}{k:Nat}(hk:(pubAll h).length<=k):mq h.drift (pubAll h) k=cK h:=by
 unfold mq cK;rw[kQ hk,List.drop_of_length_le hk,List.append_nil]
def Of(n:Int):Signed:=⟨⟨[120],4,60,[⟨[],n,9⟩]⟩,[]⟩
def Oe:Signed:=⟨⟨[120],2,60,[⟨[97,46,110,115],0,0⟩]⟩,[]⟩
def tW(n:Int):Zone:=⟨[120],[Oe,Of n]⟩
def Sh:List Copy:=[⟨0,0,10,tW 1⟩,⟨0,10,30,tW 2⟩,⟨1,5,20,tW 1⟩]
def Sj:List Host:=[⟨[97,46,110,115],1,0⟩,⟨[98,46,110,115],2,0⟩]
def Sg:DSet:=⟨[46],6,60,[⟨[],1,1⟩]⟩
def exH:Hist:=⟨Sj,Sh,Sg,[1],0,40⟩
theorem My{l:List Span}{a b:Int}(hf:∀ s∈l,s.frm<s.til)(h:a<b)(ht:∀ t,(a<=t/\t<b)↔inS l t):f9 l = [⟨a,b⟩]:=by
 refine (Gn hf ⟨λs hs=>?_,List.pairwise_singleton _ _⟩ λt=>?_).symm
 ·rw[List.mem_singleton] at hs;subst hs;exact h
 ·rw[<-ht t];simp[inS]
end Np
end Go.Proofs.YtfnopgdcaanaiaaGreatDoor
