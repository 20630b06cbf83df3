/- Parts of the proof. No condition. -/
import Derived.Laws.StructEq
import Derived.Lib.Builder
import Derived.Lib.UnsafeStr
import Derived.Laws.Externs
import Derived.Laws.EntriesVeiled
import Derived.RegionTactic
import Derived.Test.YtfnopgdcaanaiaaGreatDoorK06
set_option linter.all false
set_option maxRecDepth 100000
set_option maxHeartbeats 8000000
namespace Go.Proofs.YtfnopgdcaanaiaaGreatDoor
open Go.Proofs.Tryz
namespace Np
def ct(a:List UInt8)(l:List Signed):List (List UInt8):=(l.filter λx=>decide (x.set.type=2)&&!(x.set.name == a)).map (·.set.name)
theorem VK(a:List UInt8)(l:List Signed)(x:Signed):ct a (l ++ [x])=if x.set.type=2/\x.set.name≠a then ct a l ++ [x.set.name] else ct a l:=by
 unfold ct;rw[List.filter_append];by_cases h1:x.set.type=2 <;> by_cases h2:x.set.name=a <;> simp[h1,h2]
theorem Cn{a:List UInt8}{l:List Signed}{c:List UInt8} : c∈ct a l↔cu ⟨a,l⟩ c=true:=by
 unfold ct;rw[Hp,List.mem_map];constructor
 ·rintro⟨x,hx,rfl⟩;obtain⟨h1,h2⟩:=List.mem_filter.1 hx;simp only[Bool.and_eq_true,Qa,Bool.not_eq_true',beq_eq_false_iff_ne] at h2;exact⟨x,h1,h2.1,h2.2,rfl⟩
 ·rintro⟨x,hx,h1,h2,rfl⟩;exact⟨x,List.mem_filter.2 ⟨hx,by simpa [h1] using h2⟩,rfl⟩
theorem MQ{z:Zone}(h:InOrder z):(ct z.apex z.sets).Pairwise λa b=>aI a b<0:=by
 unfold ct;rw[List.pairwise_map];have h1:(z.sets.filter λx=>decide (x.set.type=2)&&!(x.set.name == z.apex)).Pairwise λa b=>gC a.set b.set<0:=by
  have:=h.order
  rw[List.pairwise_map] at this;exact this.sublist List.filter_sublist
 refine h1.imp_of_mem λ{a b} ha hb aa=>?_;obtain⟨_,ha⟩:=List.mem_filter.1 ha;obtain⟨_,hb⟩:=List.mem_filter.1 hb;simp only[Bool.and_eq_true,Qa] at ha hb;rcases Int.lt_or_eq_of_le (MC aa) with h2 | h2
 ·exact h2
 ·have:=MD aa (eW.zero _ _ h2)
  omega
def nU(out:List (List UInt8))(c:List UInt8):List (List UInt8):=
 match out.getLast? with
 | none=>[c]
 | some h=>if bq c h=true then out else out ++ [c]
def dM(l:List (List UInt8)):List (List UInt8):=l.foldl nU []
theorem Oa(l:List (List UInt8))(c:List UInt8):dM (l ++ [c])=nU (dM l) c:=by simp[dM]
structure Ae(l out:List (List UInt8)):Prop where
 sub:out.Sublist l
 above:∀ c∈l,∃ h∈out,bq c h=true
 top:∀ h∈out,∀ c∈l,bq h c=true->c=h
theorem XU{l out:List (List UInt8)}{c:List UInt8}(hne:∀ x∈l ++ [c],x≠[])(hs:(l ++ [c]).Pairwise λa b=>aI a b<0)(h:Ae l out):Ae (l ++ [c]) (nU out c):=by
 obtain⟨h1,_,h3⟩:=List.pairwise_append.1 hs;have aa:∀ x∈l,aI x c<0:=λx hx=>h3 x hx c (by simp);have hout:∀ x∈out,x∈l:=λx hx=>h.sub.subset hx;have NV:c≠[]:=hne c (by simp);have O4:∀ x∈l,bq x c=true->False:=λx hx hu=>by
  have a1:=Fj NV hu;have a2:=eW.anti _ _ (aa x hx);omega
 unfold nU
 cases hg:out.getLast? with
 | none=>
  have ho:out = []:=by simpa using hg
  have hl:l = []:=by
   cases l with
   | nil=>rfl
   | cons y l=>obtain⟨q,hq,_⟩:=h.above y (by simp);rw[ho] at hq;cases hq
  subst ho hl;refine⟨by simp,λx hx=>⟨c,by simp,?_⟩,λx hx y hy _=>?_⟩
  ·simp at hx;subst hx;exact Fk _
  ·simp at hx hy;rw[hx,hy]
 | some q=>
  have hq:q∈out:=List.mem_of_getLast? hg;dsimp only;split
  ·rename_i hu;refine⟨h.sub.trans (List.sublist_append_left _ _),λx hx=>?_,λx hx y hy b7=>?_⟩
   ·rcases List.mem_append.1 hx with hx | hx
    ·exact h.above x hx
    ·simp at hx;subst hx;exact⟨q,hq,hu⟩
   ·rcases List.mem_append.1 hy with hy | hy
    ·exact h.top x hx y hy b7
    ·simp at hy;subst hy;exact (O4 x (hout x hx) b7).elim
  ·rename_i hu;refine⟨List.Sublist.append h.sub (List.Sublist.refl _),λx hx=>?_,λx hx y hy b7=>?_⟩
   ·rcases List.mem_append.1 hx with hx | hx
    ·obtain⟨t,ht,kK⟩:=h.above x hx;exact⟨t,List.mem_append_left _ ht,kK⟩
    ·simp at hx;subst hx;exact⟨x,by simp,Fk _⟩
   ·rcases List.mem_append.1 hx with eB | eB
    ·rcases List.mem_append.1 hy with rV | rV
     ·exact h.top x eB y rV b7
     ·rw[List.mem_singleton] at rV;rw[rV] at b7;exact (O4 x (hout x eB) b7).elim
    ·simp at eB;subst eB;rcases List.mem_append.1 hy with hy | hy
     ·exfalso;obtain⟨t,ht,kK⟩:=h.above y hy;have O0:t≠[]:=hne t (List.mem_append_left _ (hout t ht));have Zl:y≠[]:=hne y (List.mem_append_left _ hy);have Pe:=J8 Zl O0 b7 kK;by_cases Jm:t=q
      ·subst Jm;exact hu Pe
      ·obtain⟨o',ho'⟩:=List.getLast?_eq_some_iff.1 hg;have OV:out.Pairwise λa b=>aI a b<0:=h1.sublist h.sub;rw[ho'] at OV ht;have O1:t∈o':=by
        rcases List.mem_append.1 ht with ht | ht
        ·exact ht
        ·simp at ht;exact absurd ht Jm
       have mZ:=(List.pairwise_append.1 OV).2.2 t O1 q (by simp);have YD:=aa q (hout q hq);have BW:=J7 O0 Pe (Int.le_of_lt mZ) (Int.le_of_lt YD);exact Jm (h.top q hq t (hout t (by rw[ho'];exact List.mem_append_left _ O1)) BW)
     ·simp at hy;exact hy
theorem Od:∀ (r p:List (List UInt8)),(∀ x∈p++r,x≠[])->(p++r).Pairwise (λa b=>aI a b<0)->Ae p (dM p)->Ae (p++r) (dM (p++r))
 | [],p,_,_,h=>by rw[List.append_nil];exact h
 | c::r,p,hne,hs,h=>by
   have e:p++c::r=(p ++ [c])++r:=by simp
   rw[e] at hne hs |-;refine Od r (p ++ [c]) hne hs ?_;rw[Oa];exact XU (λx hx=>hne x (List.mem_append_left _ hx)) (List.pairwise_append.1 hs).1 h
theorem XT(l:List (List UInt8))(hne:∀ x∈l,x≠[])(hs:l.Pairwise λa b=>aI a b<0):Ae l (dM l):=
 Od l [] hne hs ⟨List.Sublist.refl _,λc hc=>(by cases hc),λh hh=>(by cases hh)⟩
theorem Oc{z:Zone}(h:InOrder z):L3 (cu z) (dM (ct z.apex z.sets))/\∀ c,cu z c=true->(∀ d,cu z d=true->bq c d=true->d=c)->c∈dM (ct z.apex z.sets):=by
 have hne:∀ x∈ct z.apex z.sets,x≠[]:=λx hx=>AG h x (Cn.1 hx);have ho:=XT _ hne (MQ h);refine⟨⟨λc hc=>⟨Cn.1 (ho.sub.subset hc),λd hd hu=>ho.top c hc d (Cn.2 hd) hu⟩,(MQ h).sublist ho.sub⟩,λc hc ht=>?_⟩;obtain⟨t,h1,h2⟩:=ho.above c (Cn.2 hc);rw[<-ht t (Cn.1 (ho.sub.subset h1)) h2];exact h1
def iZ(H:List (List UInt8))(k:Nat)(n:List UInt8):List UInt8:=if 0<k/\bq n (H[k - 1]?.getD [])=true then H[k - 1]?.getD [] else []
theorem apQ{z:Zone}(h:InOrder z){n:List UInt8}{k:Nat}(hk:k<=(dM (ct z.apex z.sets)).length)(h1:∀ j x,j<k->(dM (ct z.apex z.sets))[j]?=some x->aI x n<=0)(h2:∀ j x,k<=j->(dM (ct z.apex z.sets))[j]?=some x->0<aI x n):iN (cu z) n (iZ (dM (ct z.apex z.sets)) k n):=by
 obtain⟨p1,p2⟩:=Oc h
 have:=XV (AG h) p1 (n:=n) (λc hc ht _=>p2 c hc ht) hk (λj hj tz=>h1 j _ tz (aQ hj)) (λj hj tz=>h2 j _ tz (aQ hj))
 unfold iZ;split
 ·rename_i hc;rw[dif_pos hc] at this;exact this
 ·rename_i hc;rw[dif_neg hc] at this;exact this
end Np
section
open Go.RowKit Go.MapKept
def pH(p:Int×List UInt8):Value:=.agg #[.int .i64 p.1,aD p.2]
def nF(r:Nat)(kvs:List ((Int×List UInt8)×Value))(w:World):Prop:=∃ es,w.heap[r]?=some (.map es es.size)/\es.toList.map (λe=>(e.key,e.val))=kvs.map (λp=>(pH p.1,p.2))/\∀ (i:Nat) (e:MapEntry),es[i]?=some e->e.born=i
theorem nF.lt{r:Nat}{kvs:List ((Int×List UInt8)×Value)}{w:World}(h:nF r kvs w):r<w.heap.size:=by
 obtain⟨es,h,_⟩:=h;exact (eQ.1 h).1
theorem nF.keep{r:Nat}{kvs:List ((Int×List UInt8)×Value)}{w w':World}{n:Nat}(h:nF r kvs w)(hb:Below n w w')(hn:r<n):nF r kvs w':=by
 obtain⟨es,h,h2⟩:=h;exact⟨es,(hb.block r hn).trans h,h2⟩
theorem nF.keep'{r:Nat}{kvs:List ((Int×List UInt8)×Value)}{w w':World}(h:nF r kvs w)(hb:w'.heap[r]?=w.heap[r]?):nF r kvs w':=by
 obtain⟨es,h,h2⟩:=h;exact⟨es,hb.trans h,h2⟩
theorem nF.made(w:World):nF w.heap.size [] (w.alloc (.map #[] 0)):=⟨#[],heap_alloc_new _ _,rfl,λi e h=>by simp at h⟩
theorem VZ(p q:Int×List UInt8)(w:World):(Op.equal 186 (pH p) (pH q)).run prog w = .ok (decide (p=q)) w:=by
 obtain⟨n,a⟩:=p;obtain⟨m,b⟩:=q;have u3:=underlying3;have a3:=isAgg3;have z3:=sizeOf3;have u9:=underlying9;have a9:=isAgg9;have z9:=sizeOf9;have hS:prog.underlying 186=some (.struct (prog.fieldsOf 186)):=by kernel_rfl
 have hp:prog.stoodInHeld 186=false:=by kernel_rfl
 show (Op.equalIn 10000 186 (.agg #[.int .i64 n,.string ⟨a.toArray⟩]) (.agg #[.int .i64 m,.string ⟨b.toArray⟩])).run prog w=_;rw[show (10000:Nat)=9999+1 from rfl,run_equalIn_agg w 9999 186 _ _ hS hp];simp only[Program.fieldsOf,underlying186];go_simp;by_cases h0:a=b <;> by_cases h1:n=m <;> simp[h0,h1]
theorem Vm(b:Bool)(p:Int×List UInt8)(w:World):(Instr.checkKey b 10000 186 (pH p)).run prog w = .ok () w:=by
 have hS:=underlying186;have hs:∀ s w,(Instr.checkKey b 9999 9 (.string s)).run prog w = .ok () w:=λs w=>MapKept.run_checkKey (k:=.string s) underlying9 (by simp[MapKept.IsKey]) b 9998;have hi:∀ n w,(Instr.checkKey b 9999 3 (.int .i64 n)).run prog w = .ok () w:=λn w=>MapKept.run_checkKey (k:=.int .i64 n) underlying3 (by simp[MapKept.IsKey]) b 9998;have a3:=isAgg3;have z3:=sizeOf3;have a9:=isAgg9;have z9:=sizeOf9;rw[show (10000:Nat)=9999+1 from rfl,Instr.checkKey];simp only[pH,aD];simp[run_underlying hS,go_sem,Result.andThen,hs,hi]
theorem V9{fs:Array Field}{k:Value}{e:MapEntry}{es:List MapEntry}(i:Nat):Instr.findNow (.struct fs) k (e::es) i=none:=by
 simp only[Instr.findNow];rfl
theorem Mm(p:Int×List UInt8)(w:World):∀ (es:List MapEntry) (kvs:List ((Int×List UInt8)×Value)) (i:Nat),es.map (λe=>(e.key,e.val))=kvs.map (λq=>(pH q.1,q.2))->
 (∀ v,kvs.lookup p=some v->∃ j,(es[j]?).map (λe=>(e.key,e.val))=some (pH p,v)/\kvs[j]?=some (p,v)/\(Instr.findAsking 186 (pH p) es i).run prog w = .ok (some (i+j,v)) w)/\(kvs.lookup p=none->(Instr.findAsking 186 (pH p) es i).run prog w = .ok none w)
 | [],kvs,i,h=>by
   cases kvs with
   | nil=>exact⟨λv h=>by simp at h,λ_=>by rw[Instr.findAsking];rfl⟩
   | cons=>simp at h
 | e::es,kvs,i,h=>by
   cases kvs with
   | nil=>simp at h
   | cons q kvs=>
    obtain⟨q,u⟩:=q;simp only[List.map_cons,List.cons.injEq,Prod.mk.injEq] at h;obtain⟨⟨h1,h2⟩,h3⟩:=h;obtain⟨i1,i2⟩:=Mm p w es kvs (i+1) h3;have hq:=VZ p q w;rw[<-h1] at hq;by_cases rJ:p=q
    ·have hd:decide (p=q)=true:=by simpa using rJ
     rw[hd] at hq;have hr:(Instr.findAsking 186 (pH p) (e::es) i).run prog w = .ok (some (i,u)) w:=by
      rw[Instr.findAsking];simp[hq,h2]
     subst rJ;refine⟨λv hv=>⟨0,?_,?_,?_⟩,λhn=>?_⟩
     ·rw[List.lookup_cons_self] at hv;cases hv;simp[h1,h2]
     ·rw[List.lookup_cons_self] at hv;cases hv;rfl
     ·rw[List.lookup_cons_self] at hv;cases hv;exact hr
     ·rw[List.lookup_cons_self] at hn;cases hn
    ·have hd:decide (p=q)=false:=by simpa using rJ
     rw[hd] at hq;have hb:(p == q)=false:=by simpa using rJ
     have hr:(Instr.findAsking 186 (pH p) (e::es) i).run prog w=(Instr.findAsking 186 (pH p) es (i+1)).run prog w:=by
      rw[Instr.findAsking];simp[hq]
     have hl:((q,u)::kvs).lookup p=kvs.lookup p:=by rw[List.lookup_cons,hb]
     rw[hr,hl];refine⟨λv hv=>?_,i2⟩;obtain⟨j,j1,j2,j3⟩:=i1 v hv;exact⟨j+1,by simpa using j1,by simpa using j2,by rw[show i+(j+1)=i+1+j by omega];exact j3⟩
theorem V7(p:Int×List UInt8)(w:World)(es:List MapEntry)(kvs:List ((Int×List UInt8)×Value))(h:es.map (λe=>(e.key,e.val))=kvs.map (λq=>(pH q.1,q.2))) :
 (∀ v,kvs.lookup p=some v->∃ j,(es[j]?).map (λe=>(e.key,e.val))=some (pH p,v)/\kvs[j]?=some (p,v)/\(Instr.findKey 186 (pH p) es).run prog w = .ok (some (j,v)) w)/\(kvs.lookup p=none->(Instr.findKey 186 (pH p) es).run prog w = .ok none w):=by
 have hS:=underlying186
 cases es with
 | nil=>
  cases kvs with
  | nil=>exact⟨λv h=>by simp at h,λ_=>by simp[Instr.findKey,run_underlying hS,Instr.findNow]⟩
  | cons=>simp at h
 | cons e es=>
  obtain⟨i1,i2⟩:=Mm p w (e::es) kvs 0 h;have hr:(Instr.findKey 186 (pH p) (e::es)).run prog w=(Instr.findAsking 186 (pH p) (e::es) 0).run prog w:=by
   simp[Instr.findKey,run_underlying hS,V9]
  rw[hr];refine⟨λv hv=>?_,i2⟩;obtain⟨j,j1,j2,j3⟩:=i1 v hv;exact⟨j,j1,j2,by rw[j3,Nat.zero_add]⟩
end
namespace Np
def fM(c:Copy):Int×List UInt8:=(c.host,c.zone.apex)
def ft(l:List Copy)(p:Int×List UInt8):List Span:=(l.filter λc=>decide (fM c=p)).map jF
theorem DO(l:List Copy)(c:Copy)(p:Int×List UInt8):ft (l ++ [c]) p=if fM c=p then ft l p ++ [jF c] else ft l p:=by
 unfold ft;rw[List.filter_append];by_cases h:fM c=p
 ·simp[h]
 ·simp[h]
theorem Nj{l:List Copy}{p:Int×List UInt8}(h:∀ c∈l,fM c≠p):ft l p = []:=by
 unfold ft;rw[List.filter_eq_nil_iff.2 (λc hc=>by simpa using h c hc)];rfl
structure GrpI(kvs:List ((Int×List UInt8)×List Span))(l:List Copy):Prop where
 nodup:(kvs.map (·.1)).Nodup
 each:∀ x∈kvs,x.2=ft l x.1
 all:∀ c∈l,fM c∈kvs.map (·.1)
theorem GrpI.nil:GrpI [] []:=⟨by simp,λx hx=>(by cases hx),λc hc=>(by cases hc)⟩
theorem GrpI.old{kvs:List ((Int×List UInt8)×List Span)}{l:List Copy}(h:GrpI kvs l){c:Copy}{j:Nat}{g:List Span}(hj:kvs[j]?=some (fM c,g)):GrpI (kvs.set j (fM c,g ++ [jF c])) (l ++ [c]):=by
 obtain⟨hl,he⟩:=cQ.1 hj;have hk:(kvs.set j (fM c,g ++ [jF c])).map (·.1)=kvs.map (·.1):=by
  rw[List.map_set];apply List.ext_getElem?;intro i;rw[List.getElem?_set];split
  ·rename_i e;subst e;rw[List.length_map,Qb hl,List.getElem?_map,hj];rfl
  ·rfl
 have hg:=h.each _ (gQ hj);refine⟨by rw[hk];exact h.nodup,λx hx=>?_,λd hd=>?_⟩
 ·obtain⟨i,hi,rfl⟩:=nQ.1 hx;rw[List.length_set] at hi;rw[List.getElem_set];split
  ·rename_i e;subst e;rw[DO,Qb rfl];simp only at hg |-;rw[<-hg]
  ·rename_i e;rw[DO,Qc]
   ·exact h.each _ (List.getElem_mem hi)
   ·intro e2;apply e;have h1:(kvs.map (·.1))[j]'(by simpa using hl)=(kvs.map (·.1))[i]'(by simpa using hi):=by simp[he,e2]
    exact (List.getElem_inj (h₀:=by simpa using hl) (h₁:=by simpa using hi) h.nodup).1 h1
 ·rw[hk];rcases List.mem_append.1 hd with hd | hd
  ·exact h.all d hd
  ·rw[List.mem_singleton] at hd;subst hd;exact List.mem_map.2 ⟨_,gQ hj,rfl⟩
theorem GrpI.new{kvs:List ((Int×List UInt8)×List Span)}{l:List Copy}(h:GrpI kvs l){c:Copy}(hn:fM c∉kvs.map (·.1)):GrpI (kvs ++ [(fM c,[jF c])]) (l ++ [c]):=by
 have h0:ft l (fM c) = []:=Nj λd hd e=>hn (by rw[<-e];exact h.all d hd);refine⟨?_,λx hx=>?_,λd hd=>?_⟩
 ·rw[List.map_append,List.nodup_append];refine⟨h.nodup,by simp,λa ha b hb e=>?_⟩;simp at hb;subst hb;subst e;exact hn ha
 ·rcases List.mem_append.1 hx with hx | hx
  ·rw[DO,Qc]
   ·exact h.each x hx
   ·intro e;exact hn (by rw[e];exact List.mem_map.2 ⟨x,hx,rfl⟩)
  ·rw[List.mem_singleton] at hx;subst hx;rw[DO,Qb rfl,h0];rfl
 ·rw[List.map_append];rcases List.mem_append.1 hd with hd | hd
  ·exact List.mem_append_left _ (h.all d hd)
  ·rw[List.mem_singleton] at hd;subst hd;simp
def nG(a b:Span):Prop:=a.frm<b.til/\b.frm<a.til
theorem nG.symm{a b:Span}(h:nG a b):nG b a:=⟨h.2,h.1⟩
def Hf(m:List Span):Prop:=∀ i (h:i+1<m.length),m[i].til<=m[i+1].frm
theorem atX{m l:List Span}(hp:m.Perm l)(hs:m.Pairwise λa b=>a.frm<=b.frm)(hf:∀ s∈l,s.frm<s.til):Hf m↔l.Pairwise λa b=>¬ nG a b:=by
 rw[<-hp.pairwise_iff (R:=λa b=>¬ nG a b) (λ{a b} h k=>h k.symm)];have N4:∀ s∈m,s.frm<s.til:=λs hs=>hf s (hp.mem_iff.1 hs);clear hp hf;constructor
 ·intro h;rw[List.pairwise_iff_getElem];intro i j hi hj dD ho;have key:∀ d,∀ (h1:i+d+1<m.length),(m[i]'(by omega)).til<=(m[i+d+1]'h1).frm:=by
   intro d
   induction d with
   | zero=>intro h1;exact h i h1
   | succ d ih=>
    intro h1;have h2:=ih (by omega);have h3:=h (i+d+1) (by omega);have h4:=N4 _ (List.getElem_mem (show i+d+1<m.length by omega));have e:i+(d+1)+1=i+d+1+1:=by omega
    simp only[e];omega
  obtain⟨d,rfl⟩:∃ d,j=i+d+1:=⟨j - i - 1,by omega⟩
  have:=key d hj
  have:=ho.2
  omega
 ·intro h i hi;rw[List.pairwise_iff_getElem] at h hs;have h1:=h i (i+1) (by omega) hi (by omega);have h2:=hs i (i+1) (by omega) hi (by omega);have h3:=N4 _ (List.getElem_mem hi);unfold nG at h1;omega
theorem Ws(l:List Copy):(l.Pairwise λc d=>¬ jH c d)↔∀ p,(ft l p).Pairwise λa b=>¬ nG a b:=by
 induction l with
 | nil=>simp[ft]
 | cons c l ih=>
  rw[List.pairwise_cons,ih];constructor
  ·rintro⟨h1,h2⟩ p;by_cases hp:fM c=p
   ·have e:ft (c::l) p=jF c::ft l p:=by unfold ft;simp[hp]
    rw[e,List.pairwise_cons];refine⟨λs hs=>?_,h2 p⟩;obtain⟨d,hd,rfl⟩:=List.mem_map.1 hs;obtain⟨gE,iz⟩:=List.mem_filter.1 hd;have hk:fM d=fM c:=by rw[hp];simpa using iz
    intro ho;unfold fM at hk;simp only[Prod.mk.injEq] at hk;exact h1 d gE ⟨hk.1.symm,hk.2.symm,ho.1,ho.2⟩
   ·have e:ft (c::l) p=ft l p:=by unfold ft;simp[hp]
    rw[e];exact h2 p
  ·intro h;refine⟨λd hd iy=>?_,λp=>?_⟩
   ·have h1:=h (fM c);have e:ft (c::l) (fM c)=jF c::ft l (fM c):=by unfold ft;simp
    rw[e,List.pairwise_cons] at h1;refine h1.1 (jF d) (List.mem_map.2 ⟨d,List.mem_filter.2 ⟨hd,?_⟩,rfl⟩) ⟨iy.2.2.1,iy.2.2.2⟩;unfold fM;simp[iy.1,iy.2.1]
   ·have h1:=h p;by_cases hp:fM c=p
    ·have e:ft (c::l) p=jF c::ft l p:=by unfold ft;simp[hp]
     rw[e,List.pairwise_cons] at h1;exact h1.2
    ·have e:ft (c::l) p=ft l p:=by unfold ft;simp[hp]
     rwa [e] at h1
theorem GrpI.ok{kvs:List ((Int×List UInt8)×List Span)}{l:List Copy}(h:GrpI kvs l):(l.Pairwise λc d=>¬ jH c d)↔∀ x∈kvs,x.2.Pairwise λa b=>¬ nG a b:=by
 rw[Ws];constructor
 ·intro h1 x hx;rw[h.each x hx];exact h1 _
 ·intro h1 p;by_cases hp:p∈kvs.map (·.1)
  ·obtain⟨x,hx,rfl⟩:=List.mem_map.1 hp;rw[<-h.each x hx];exact h1 x hx
  ·rw[Nj λc hc e=>hp (by rw[<-e];exact h.all c hc)];exact List.Pairwise.nil
theorem yN{l:List Copy}{a:List UInt8} : a∈apexes l↔∃ c∈l,c.zone.apex=a:=by
 unfold apexes;rw[(Fe _).mem_iff,wI,List.mem_map]
theorem UP{l m:List Copy}(h:∀ a,(∃ c∈l,c.zone.apex=a)↔∃ c∈m,c.zone.apex=a):apexes l=apexes m:=
 J2 eW _ _ (JW (yR _)) (JW (yR _)) λa=>yN.trans ((h a).trans yN.symm)
theorem Hk(l:List Copy):(l.map (·.zone.apex)).foldl em []=apexes l:=by
 have key:∀ (l o:List (List UInt8)),o.Pairwise (λa b=>aI a b<0)->(l.foldl em o).Pairwise (λa b=>aI a b<0)/\∀ y,y∈l.foldl em o↔y∈o\/y∈l:=by
  intro l
  induction l with
  | nil=>exact λo ho=>⟨ho,λy=>by simp⟩
  | cons a l ih=>
   intro o ho;obtain⟨h1,h2⟩:=Qy o a ho;obtain⟨h3,h4⟩:=ih _ h1;exact⟨h3,λy=>by rw[List.foldl_cons,h4,h2,List.mem_cons,or_assoc]⟩
 obtain⟨h1,h2⟩:=key (l.map (·.zone.apex)) [] List.Pairwise.nil;refine J2 eW _ _ h1 (JW (yR _)) λa=>?_;rw[h2,yN,List.mem_map];simp
def x6(a:Int)(c:Copy):List Copy:=if c.frm<a/\a<c.til then [⟨c.host,c.frm,a,c.zone⟩,⟨c.host,a,c.til,c.zone⟩] else [c]
def vf(l:List Copy)(k:Nat)(a:Int):List Copy:=
 match l[k]? with
 | none=>l
 | some c=>l.take k++x6 a c++l.drop (k+1)
theorem VG{a:Int}{c d:Copy}(h:d∈x6 a c):d.host=c.host/\d.zone=c.zone/\c.frm<=d.frm/\d.til<=c.til/\(c.frm<c.til->d.frm<d.til):=by
 unfold x6 at h;split at h
 ·rename_i hc;simp only[List.mem_cons,Qh,or_false] at h;rcases h with rfl | rfl
  ·exact⟨rfl,rfl,Int.le_refl _,Int.le_of_lt hc.2,λ_=>hc.1⟩
  ·exact⟨rfl,rfl,Int.le_of_lt hc.1,Int.le_refl _,λ_=>hc.2⟩
 ·rw[List.mem_singleton] at h;subst h;exact⟨rfl,rfl,Int.le_refl _,Int.le_refl _,id⟩
theorem VI{l:List Copy}{k:Nat}{c:Copy}(h:l[k]?=some c):l=l.take k ++ [c]++l.drop (k+1):=by
 obtain⟨hk,rfl⟩:=cQ.1 h;rw[List.append_assoc,List.singleton_append,List.getElem_cons_drop,List.take_append_drop]
theorem MO(l:List Copy)(k:Nat)(a:Int):vf l k a=l\/∃ p c q,l=p ++ [c]++q/\vf l k a=p++x6 a c++q:=by
 unfold vf
 cases h:l[k]? with
 | none=>exact .inl rfl
 | some c=>exact .inr ⟨_,c,_,VI h,rfl⟩
theorem MP{l:List Copy}{k:Nat}{a:Int}{d:Copy}(h:d∈vf l k a):∃ c∈l,d.host=c.host/\d.zone=c.zone/\c.frm<=d.frm/\d.til<=c.til/\(c.frm<c.til->d.frm<d.til):=by
 rcases MO l k a with e | ⟨p,c,q,e1,e2⟩
 ·rw[e] at h;exact⟨d,h,rfl,rfl,Int.le_refl _,Int.le_refl _,id⟩
 ·rw[e2] at h;rcases List.mem_append.1 h with h | h
  ·rcases List.mem_append.1 h with h | h
   ·exact⟨d,by rw[e1];simp[h],rfl,rfl,Int.le_refl _,Int.le_refl _,id⟩
   ·exact⟨c,by rw[e1];simp,VG h⟩
  ·exact⟨d,by rw[e1];simp[h],rfl,rfl,Int.le_refl _,Int.le_refl _,id⟩
theorem NE{l:List Copy}(hl:mu l){P:Int->Zone->Prop} : (∃ c∈l,P c.host c.zone)↔∃ t,∃ c∈l,P c.host c.zone/\c.frm<=t/\t<c.til:=
 ⟨λ⟨c,h1,h2⟩=>⟨c.frm,c,h1,h2,Int.le_refl _,hl c h1⟩,λ⟨_,c,h1,h2,_⟩=>⟨c,h1,h2⟩⟩
def xV(l m:List Copy):Prop:=∀ (P:Int->Zone->Prop) (t:Int),(∃ d∈l,P d.host d.zone/\d.frm<=t/\t<d.til)↔∃ c∈m,P c.host c.zone/\c.frm<=t/\t<c.til
theorem xV.zone{l m:List Copy}(h:xV l m)(hl:mu l)(hm:mu m){P:Int->Zone->Prop} : (∃ c∈l,P c.host c.zone)↔∃ c∈m,P c.host c.zone:=by
 rw[NE hl,NE hm];exact⟨λ⟨t,ht⟩=>⟨t,(h P t).1 ht⟩,λ⟨t,ht⟩=>⟨t,(h P t).2 ht⟩⟩
theorem xV.apexes{l m:List Copy}(h:xV l m)(hl:mu l)(hm:mu m):apexes l=apexes m:=
 UP λa=>h.zone hl hm (P:=λ_ z=>z.apex=a)
theorem xV.fresh{l m:List Copy}(h:xV l m)(hl:mu l)(hm:mu m)(zone:List UInt8)(s:Signed):cP (fN (de l zone) s)=cP (fN (de m zone) s):=by
 refine afZ (Fh hl) (Fh hm) λt=>JA.trans (Iff.trans ?_ JA.symm)
 have:=h (λ_ z=>z.apex=zone/\s∈z.sets) t
 simpa only[and_assoc] using this
theorem Qj(a b:List Copy)(zone:List UInt8):de (a++b) zone=de a zone++de b zone:=by
 unfold de vd;rw[List.filter_append,List.flatMap_append]
theorem VH(l:List Copy)(k:Nat)(a:Int):(vf l k a).length<=l.length+1:=by
 rcases MO l k a with e | ⟨p,c,q,e1,e2⟩
 ·rw[e];omega
 ·rw[e2,e1]
  have:(x6 a c).length<=2:=by unfold x6;split <;> simp
  simp only[List.length_append,List.length_singleton];omega
def withC(h:Hist)(l:List Copy):Hist:=⟨h.hosts,l,h.anchor,h.hints,h.drift,h.stop⟩
def yZ(l:List Copy)(u:Int):List Copy:=(l.map λc=>⟨c.host,c.frm,min c.til u,c.zone⟩).filter λc=>decide (c.frm<c.til)
theorem PX{l:List Copy}{u:Int}{d:Copy} : d∈yZ l u↔∃ c∈l,d=⟨c.host,c.frm,min c.til u,c.zone⟩/\c.frm<min c.til u:=by
 unfold yZ;rw[List.mem_filter,List.mem_map];constructor
 ·rintro⟨⟨c,hc,rfl⟩,h⟩;exact⟨c,hc,rfl,by simpa using h⟩
 ·rintro⟨c,hc,rfl,h⟩;exact⟨⟨c,hc,rfl⟩,by simpa using h⟩
theorem ayJ(l:List Copy)(u:Int):(yZ l u).length<=l.length:=by
 unfold yZ;exact yQ (List.length_filter_le _ _) (by rw[List.length_map];exact bQ _)
end Np
section
open Go.RowKit
open Classical in
noncomputable def bi(w:World)(M:Nat->Prop):World:={ w with heap:=w.heap.mapIdx λk o=>if M k then .cells #[] 0 else o }
theorem gJ(w:World)(M:Nat->Prop):(bi w M).heap.size=w.heap.size:=by simp[bi]
theorem kS{w:World}{M:Nat->Prop}{k:Nat}(h:¬ M k):(bi w M).heap[k]?=w.heap[k]?:=by
 unfold bi;simp only[Array.getElem?_mapIdx,h,if_false]
 cases w.heap[k]? <;> rfl
theorem wV{w:World}{M:Nat->Prop}{k:Nat}(h:M k):(bi w M).heap[k]?=(w.heap[k]?).map λ_=>Obj.cells #[] 0:=by
 unfold bi;simp only[Array.getElem?_mapIdx,h,if_true]
theorem Q4{w:World}{M:Nat->Prop}{p:Addr}{v:Value}(h:(bi w M).cell? p=some v):¬ M p.block/\w.cell? p=some v:=by
 by_cases hm:M p.block
 ·exfalso;unfold World.cell? at h;rw[wV hm] at h
  cases hh:w.heap[p.block]? with
  | none=>simp[hh] at h
  | some o=>simp[hh] at h
 ·refine⟨hm,?_⟩;rw[<-h];exact (iQ (w:=w) (kS hm)).symm
theorem axK{w:World}{M:Nat->Prop}{p:Addr}(h:¬ M p.block):(bi w M).cell? p=w.cell? p:=iQ (w:=w) (kS h)
def fp{α:Type}(R:World->Nat->List Value->α->Prop):Prop:=∀ w (M M':Nat->Prop) B e x,(∀ k,M' k->M k)->R (bi w M) B e x->R (bi w M') B e x
theorem ai.sans{w:World}{M M':Nat->Prop}{b o:Nat}{e:List Value}(hM:∀ k,M' k->M k)(h:ai (bi w M) b o e):ai (bi w M') b o e:=λj v hj=>by
 obtain⟨h1,h2⟩:=Q4 (h j v hj);rw[axK (λe=>h1 (hM _ e))];exact h2
theorem SlR.sans{α:Type}{R:World->Nat->List Value->α->Prop}{sz:Nat}{w:World}{M M':Nat->Prop}{B:Nat}{v:Value}{xs:List α}(hR:fp R)(hM:∀ k,M' k->M k)(h:SlR R sz (bi w M) B v xs):SlR R sz (bi w M') B v xs:=by
 obtain⟨A,c,hv,hc,hl,he⟩:=h;refine⟨A,c,hv,hc,hl,λi x hx=>?_⟩;obtain⟨b,o,e,hA,hB,bV,hce,hr⟩:=he i x hx;exact⟨b,o,e,hA,hB,bV,hce.sans hM,hR _ _ _ _ _ _ hM hr⟩
theorem Q5(w:World):bi w (λ_=>False)=w:=by
 unfold bi
 cases w
 simp only[World.mk.injEq,and_true];apply Array.ext_getElem?;intro i;simp only[Array.getElem?_mapIdx,if_false];rename_i heap _ _ _ _
 cases heap[i]? <;> rfl
theorem SlR.all{α:Type}{R:World->Nat->List Value->α->Prop}{sz:Nat}{w:World}{M:Nat->Prop}{B:Nat}{v:Value}{xs:List α}(hR:fp R)(h:SlR R sz (bi w M) B v xs):SlR R sz w B v xs:=by
 have:=h.sans (M':=λ_=>False) hR (λ_ e=>e.elim)
 rw[Q5] at this;exact this
theorem wO:fp bF:=λ_ _ _ _ _ _ _ h=>h
theorem yY:fp dm:=λ_ _ _ _ _ _ _ h=>h
theorem kn:fp bk:=λ_ _ _ _ _ _ hM ⟨s,v,u,h1,h2,h3,h4,h5⟩=>⟨s,v,u,h1,h2,h3.sans wO hM,h4.sans yY hM,h5⟩
theorem fp.all{α:Type}{R:World->Nat->List Value->α->Prop}(hR:fp R){w:World}{M:Nat->Prop}{B:Nat}{e:List Value}{x:α}(h:R (bi w M) B e x):R w B e x:=by
 have:=hR w M (λ_=>False) B e x (λ_ e=>e.elim) h
 rw[Q5] at this;exact this
structure Leaves'(M:Nat->Prop)(w w':World)(M':Nat->Prop):Prop where
 os:w'.os=w.os
 tape:w'.tape=w.tape
 output:w'.output=w.output
 size:w.heap.size<=w'.heap.size
 keep:∀ k,k<w.heap.size->¬ M k->¬ M' k/\w'.heap[k]?=w.heap[k]?
theorem Leaves'.refl(M:Nat->Prop)(w:World):Leaves' M w w M:=⟨rfl,rfl,rfl,bQ _,λ_ _ h=>⟨h,rfl⟩⟩
theorem Leaves'.trans{M M' M'':Nat->Prop}{a b c:World}(h:Leaves' M a b M')(k:Leaves' M' b c M''):Leaves' M a c M'':=
 ⟨k.os.trans h.os,k.tape.trans h.tape,k.output.trans h.output,yQ h.size k.size,λi hi hm=>by
  obtain⟨h1,h2⟩:=h.keep i hi hm;obtain⟨h3,h4⟩:=k.keep i (lQ hi h.size) h1;exact⟨h3,h4.trans h2⟩⟩
theorem Leaves'.of_below{M:Nat->Prop}{w w':World}(h:Below w.heap.size w w'):Leaves' M w w' M:=⟨h.os,h.tape,h.output,h.size,λk hk hm=>⟨hm,h.block k hk⟩⟩
theorem Leaves'.setCell(M:Nat->Prop)(w:World){p:Addr}(hp:M p.block)(v:Value):Leaves' M w (w.setCell p v) M:=
 ⟨rfl,rfl,rfl,by simp[World.setCell],λk _ hm=>⟨hm,wQ _ _ _ _ (λe=>hm (e ▸ hp))⟩⟩
theorem Leaves'.grown{M:Nat->Prop}{w w':World}{row:Option Nat}(hg:w.grownBy w' row)(hr:∀ k,row=some k->M k):Leaves' M w w' M:=
 ⟨hg.os,hg.tape,hg.output,hg.size,λk hk hm=>⟨hm,hg.block k hk (λe=>hm (hr k e.symm))⟩⟩
theorem Leaves'.more{M M' N:Nat->Prop}{w w':World}(h:Leaves' M w w' M')(hN:∀ k,N k->M' k\/w.heap.size<=k):Leaves' M w w' N:=
 ⟨h.os,h.tape,h.output,h.size,λk hk hm=>⟨λe=>(hN k e).elim (h.keep k hk hm).1 (by omega),(h.keep k hk hm).2⟩⟩
theorem Leaves'.read{α:Type}{R:World->Nat->List Value->α->Prop}(hk:dl R)(hs:fp R)(hm:dJ R){M M':Nat->Prop}{w w':World}(h:Leaves' M w w' M'){e:List Value}{x:α}(hr:R (bi w M) w.heap.size e x):R (bi w' M') w'.heap.size e x:=by
 have hb:Below w.heap.size (bi w M) (bi w' λk=>M k\/M' k):=by
  refine⟨h.os,h.tape,h.output,by rw[gJ,gJ];exact h.size,λk hk=>?_⟩;by_cases hM:M k
  ·rw[wV hM,wV (M:=λk=>M k\/M' k) (Or.inl hM)];have h1:k<w'.heap.size:=lQ hk h.size;rw[pQ hk,pQ h1];rfl
  ·obtain⟨h1,h2⟩:=h.keep k hk hM;rw[kS hM,kS (M:=λk=>M k\/M' k) (λe=>e.elim hM h1),h2]
 exact hm _ _ _ _ _ (hs _ _ _ _ _ _ (λk e=>Or.inr e) (hk _ _ _ _ _ hr hb)) h.size
def bE{α:Type}(R:World->Nat->List Value->α->Prop)(sz:Nat)(e:TypeId)(base:Nat)(M:Nat->Prop)(w:World)(v:Value)(xs:List α):Prop:=
 ∃ rows:List (List Value),rows.length=xs.length/\w.ownsRow base e sz v xs.length rows.flatten/\(∀ g,v.ownBlock=some g->M g)/\
   ∀ (i:Nat) (r:List Value) (x:α),rows[i]?=some r->xs[i]?=some x->r.length=sz/\R (bi w M) w.heap.size r x
theorem bE.nil{α:Type}{R:World->Nat->List Value->α->Prop}{sz:Nat}{e:TypeId}{base:Nat}{M:Nat->Prop}(w:World):bE (α:=α) R sz e base M w (.slice none 0 0) []:=
 ⟨[],rfl,⟨by simp,.inl ⟨rfl,rfl⟩⟩,(λg h=>by cases h),λi r x h=>by simp at h⟩
theorem bE.form{α:Type}{R:World->Nat->List Value->α->Prop}{sz:Nat}{e:TypeId}{base:Nat}{M:Nat->Prop}{w:World}{v:Value}{xs:List α}(h:bE R sz e base M w v xs):∃ A c,v = .slice A xs.length c:=by
 obtain⟨rows,h1,h2,h3⟩:=h;rcases h2.2 with ⟨rfl,h0⟩ | ⟨g,cap,cur,rfl,_⟩
 ·exact⟨none,0,by rw[h0]⟩
 ·exact⟨_,cap,rfl⟩
theorem bE.leaves{α:Type}{R:World->Nat->List Value->α->Prop}(hk:dl R)(hs:fp R)(hm:dJ R){sz:Nat}{e:TypeId}{base:Nat}{M M':Nat->Prop}{w w':World}{v:Value}{xs:List α}(h:bE R sz e base M w v xs)(hl:Leaves' M w w' M')
 (ho:∀ g,v.ownBlock=some g->w'.heap[g]?=w.heap[g]?/\M' g):bE R sz e base M' w' v xs:=by
 obtain⟨rows,h1,h2,h3,h4⟩:=h;exact⟨rows,h1,gp h2 (λg hg=>(ho g hg).1),λg hg=>(ho g hg).2,λi r x hr hx=>⟨(h4 i r x hr hx).1,hl.read hk hs hm (h4 i r x hr hx).2⟩⟩
theorem bE.slr{α:Type}{R:World->Nat->List Value->α->Prop}(hs:fp R){sz:Nat}{e:TypeId}{base:Nat}{M:Nat->Prop}{w:World}{v:Value}{xs:List α}(h:bE R sz e base M w v xs)(hl:xs.length<=140737488355328):SlR R sz w w.heap.size v xs:=by
 obtain⟨rows,h1,h2,h3,h4⟩:=h;have hl':=bn.rows_len (w:=bi w M) (B:=w.heap.size) h1 h4;rcases h2.2 with ⟨rfl,h0⟩ | ⟨g,cap,cur,rfl,hb,hg,mb,_⟩
 ·have:xs = []:=rQ h0
  subst this;exact⟨none,0,rfl,by simp,by simp,λi x hx=>by simp at hx⟩
 ·refine⟨_,cap,rfl,mb,hl,λi x hx=>?_⟩;have hi:=(cQ.1 hx).1;have hr:=aQ (l:=rows) (i:=i) (by omega);obtain⟨h5,h6⟩:=h4 i _ x hr hx;refine⟨g,0,rows[i],rfl,(eQ.1 hg).1,h5,λj u hj=>?_,hs.all h6⟩;have h7:=h2.cells (g:=g) rfl _ _ (DL rows i j _ u hl' hr hj);have nR:(⟨g,0,none⟩:Addr).add (i * sz+j)=⟨g,0+i * sz+j,none⟩:=by unfold Addr.add;split <;> simp_all
  rw[nR] at h7;exact h7
def xU{α:Type}(R:World->Nat->List Value->α->Prop)(sz:Nat)(M:Nat->Prop)(w:World)(A:Option Addr)(ys:List α):Prop:=
 ∃ rows:List (List Value),rows.length=ys.length/\(∀ (i:Nat) (r:List Value) (x:α),rows[i]?=some r->ys[i]?=some x->r.length=sz/\R (bi w M) w.heap.size r x)/\(ys≠[]->∃ b o,A=some ⟨b,o,none⟩/\∀ j u,rows.flatten[j]?=some u->w.cell? ((⟨b,o,none⟩:Addr).add j)=some u)
theorem E6{α:Type}{R:World->Nat->List Value->α->Prop}{sz:Nat}{M:Nat->Prop}{w:World}{b o:Nat}{r:List Value}{x:α}(hl:r.length=sz)(hr:R (bi w M) w.heap.size r x)(hc:ai w b o r):xU R sz M w (some ⟨b,o,none⟩) [x]:=by
 refine⟨[r],rfl,λi r' x' h1 h2=>?_,λ_=>⟨b,o,rfl,λj u hj=>?_⟩⟩
 ·cases i with
  | zero=>simp at h1 h2;subst h1;subst h2;exact⟨hl,hr⟩
  | succ i=>simp at h1
 ·have nR:(⟨b,o,none⟩:Addr).add j=⟨b,o+j,none⟩:=by unfold Addr.add;split <;> simp_all
  rw[nR];exact hc j u (by simpa using hj)
theorem auQ{α:Type}{R:World->Nat->List Value->α->Prop}{sz:Nat}{M:Nat->Prop}{w:World}{A:Option Addr}{n c:Nat}{ys:List α}(h:SlR R sz (bi w M) w.heap.size (.slice A n c) ys)(ap:0<sz):xU R sz M w A ys:=by
 obtain⟨rows,h1,h2,h3⟩:=Rf h ap;exact⟨rows,h1,h2,λhy=>by obtain⟨b,o,h4,_,h5⟩:=h3 hy;exact⟨b,o,h4,λj u hj=>(Q4 (h5 j u hj)).2⟩⟩
section
variable {P:Program}
theorem avJ{α:Type}{R:World->Nat->List Value->α->Prop}{sz:Nat}{M:Nat->Prop}(w:World)(t ty:TypeId)
 (base:Nat) (e:TypeId) (i:TypeInfo) (z:Value) (bytes:Nat) (ht:P.underlying t=some (.slice e)) (hi:P.info? e=some i) (hz:i.zero=some z) (lw:i.size=sz) (ia:i.bytes=bytes) (pp:z.cells.size=sz) (ap:0<sz)
 (v:Value) (xs:List α) (hown:bE R sz e base M w v xs) (A:Option Addr) (c:Nat) (ys:List α) (da:xU R sz M w A ys)
 (vX:∀ w B r y,R w B r y->∀ u∈r,u.oneCell'=true) (jY:xs.length+ys.length<=maxLen) (mM:(xs.length+ys.length) * bytes<=140737488355328) (dV:base<=w.heap.size) (hk:dl R) (hs:fp R) (hm:dJ R) :
 ∃ v' w',(Builtin.append_ #[t,t] ty #[v,.slice A ys.length c]).run P w = .ok v' w'/\bE R sz e base (λk=>M k\/v'.ownBlock=some k) w' v' (xs++ys)/\w.grownBy w' v.ownBlock/\(v'.ownBlock=v.ownBlock\/v'.ownBlock=some w.heap.size):=by
 have rF:∀ (w':World) (v':Value) (rows rows':List (List Value)),w.grownBy w' v.ownBlock->(v'.ownBlock=v.ownBlock\/v'.ownBlock=some w.heap.size)->(∀ g,v.ownBlock=some g->M g)->rows.length=xs.length->(∀ (i:Nat) (r:List Value) (x:α),rows[i]?=some r->xs[i]?=some x->r.length=sz/\R (bi w M) w.heap.size r x)->rows'.length=ys.length->
  (∀ (i:Nat) (r:List Value) (x:α),rows'[i]?=some r->ys[i]?=some x->r.length=sz/\R (bi w M) w.heap.size r x)->w'.ownsRow base e sz v' (xs.length+ys.length) (rows.flatten++rows'.flatten)->bE R sz e base (λk=>M k\/v'.ownBlock=some k) w' v' (xs++ys):=by
  intro w' v' rows rows' hg hat yc h1 h2 h3 h4 h5;have vS:Leaves' M w w' (λk=>M k\/v'.ownBlock=some k):=(Leaves'.grown hg yc).more (λk e=>by
   rcases e with e | e
   ·exact .inl e
   ·rcases hat with h | h
    ·exact .inl (yc k (h ▸ e))
    ·rw[h] at e;cases e;exact .inr (bQ _))
  refine⟨rows++rows',by simp[h1,h3],?_,λg hg'=>.inr hg',λj r y hr hy=>?_⟩
  ·rw[List.length_append,List.flatten_append];exact h5
  ·rcases Nat.lt_or_ge j rows.length with aa | lZ
   ·rw[List.getElem?_append_left aa] at hr;rw[List.getElem?_append_left (by omega)] at hy;obtain⟨h6,h7⟩:=h2 j r y hr hy;exact⟨h6,vS.read hk hs hm h7⟩
   ·rw[oQ lZ] at hr;rw[oQ (by omega),<-h1] at hy;obtain⟨h6,h7⟩:=h4 _ r y hr hy;exact⟨h6,vS.read hk hs hm h7⟩
 obtain⟨rows,h1,h2,yc,h3⟩:=hown;obtain⟨rows',h4,h5,h6⟩:=da;by_cases hy:ys = []
 ·subst hy;have mY:rows' = []:=rQ (by simpa using h4);subst mY
  cases A with
  | none=>
   have cU:=Q1 (P:=P) base t ty e i sz ht hi v xs.length c rows.flatten h2;have hg:w.grownBy w v.ownBlock:=⟨rfl,rfl,rfl,bQ _,λ_ _ _=>rfl⟩;exact⟨v,w,cU,rF w v rows [] hg (.inl rfl) yc h1 h3 rfl (λj r y hr=>by simp at hr) (by simpa using h2),hg,.inl rfl⟩
  | some ad=>
   obtain⟨v',w',hr,ho',hg,_,hat⟩:=run_append_own_at (P:=P) w base t ty e i z sz bytes ht hi hz lw ia pp ap v xs.length rows.flatten h2 ad 0 c [] (by simp) (λj u hj=>by simp at hj) (λu hu=>by cases hu) (by simpa using jY) (by simpa using mM) dV;exact⟨v',w',hr,rF w' v' rows [] hg hat yc h1 h3 rfl (λj r y hr=>by simp at hr) (by simpa using ho'),hg,hat⟩
 ·obtain⟨b,o',rfl,hcell⟩:=h6 hy;have hl:=bn.rows_len (w:=bi w M) (B:=w.heap.size) h4 h5;obtain⟨v',w',hr,ho',hg,_,hat⟩:=run_append_own_at (P:=P) w base t ty e i z sz bytes ht hi hz lw ia pp ap v xs.length rows.flatten h2 ⟨b,o',none⟩ ys.length c rows'.flatten (by rw[Hv rows' hl,h4]) hcell (λu hu=>by
   obtain⟨r,hr,Jo⟩:=List.mem_flatten.1 hu;obtain⟨j,hj,rfl⟩:=nQ.1 hr;exact vX _ _ _ _ (h5 j _ _ (aQ hj) (aQ (by omega))).2 u Jo) jY mM dV
  exact⟨v',w',hr,rF w' v' rows rows' hg hat yc h1 h3 h4 h5 ho',hg,hat⟩
theorem Kn{α:Type}{R:World->Nat->List Value->α->Prop}{sz:Nat}{M:Nat->Prop}(w:World){o:Oper}{a:Act}{K:Act->World->Prop}{Q:Exit->Act->World->Prop}(s x:Operand)(t:TypeId)
 (ho:o.op = .call { callee:=.builtin .append,args:=#[s,x],argTypes:=#[t,t] })
 (base:Nat) (e:TypeId) (i:TypeInfo) (z:Value) (bytes:Nat) (ht:P.underlying t=some (.slice e)) (hi:P.info? e=some i) (hz:i.zero=some z) (lw:i.size=sz) (ia:i.bytes=bytes) (pp:z.cells.size=sz) (ap:0<sz)
 (v:Value) (xs:List α) (hv:a.eval s=v) (hown:bE R sz e base M w v xs) (A:Option Addr) (c:Nat) (ys:List α) (hx:a.eval x = .slice A ys.length c) (da:xU R sz M w A ys)
 (vX:∀ w B r y,R w B r y->∀ u∈r,u.oneCell'=true) (jY:xs.length+ys.length<=maxLen) (mM:(xs.length+ys.length) * bytes<=140737488355328) (dV:base<=w.heap.size) (hk:dl R) (hs:fp R) (hm:dJ R)
 (h:∀ v' w',bE R sz e base (λk=>M k\/v'.ownBlock=some k) w' v' (xs++ys)->w.grownBy w' v.ownBlock->(v'.ownBlock=v.ownBlock\/v'.ownBlock=some w.heap.size)->K (a.put o.dst v') w'):o.wp P a w K Q:=by
 obtain⟨v',w',hr,h2,h4,h5⟩:=avJ (P:=P) w t o.type base e i z bytes ht hi hz lw ia pp ap v xs hown A c ys da vX jY mM dV hk hs hm;unfold Oper.wp execOp;simp only[ho,resolve,invoke,builtin,Sem.run_bind,Sem.run_pure,Result.andThen_ok,List.map_toArray,List.map_cons,List.map_nil,hv,hx,hr];exact h v' w' h2 h4 h5
theorem Km{α:Type}{R:World->Nat->List Value->α->Prop}{sz:Nat}{M:Nat->Prop}(w:World){ops:Array Oper}{rest:List Oper}{o:Oper}{a:Act}{Q:Exit->Act->World->Prop}(iA:o.guard=none)(s x:Operand)(t:TypeId)
 (ho:o.op = .call { callee:=.builtin .append,args:=#[s,x],argTypes:=#[t,t] })
 (base:Nat) (e:TypeId) (i:TypeInfo) (z:Value) (bytes:Nat) (ht:P.underlying t=some (.slice e)) (hi:P.info? e=some i) (hz:i.zero=some z) (lw:i.size=sz) (ia:i.bytes=bytes) (pp:z.cells.size=sz) (ap:0<sz)
 (v:Value) (xs:List α) (hv:a.eval s=v) (hown:bE R sz e base M w v xs) (A:Option Addr) (c:Nat) (ys:List α) (hx:a.eval x = .slice A ys.length c) (da:xU R sz M w A ys)
 (vX:∀ w B r y,R w B r y->∀ u∈r,u.oneCell'=true) (jY:xs.length+ys.length<=maxLen) (mM:(xs.length+ys.length) * bytes<=140737488355328) (dV:base<=w.heap.size) (hk:dl R) (hs:fp R) (hm:dJ R)
 (h:∀ v' w',bE R sz e base (λk=>M k\/v'.ownBlock=some k) w' v' (xs++ys)->w.grownBy w' v.ownBlock->(v'.ownBlock=v.ownBlock\/v'.ownBlock=some w.heap.size)->wpList P ops Q rest (a.put o.dst v') w'):wpList P ops Q (o::rest) a w:=by
 refine wpList_plain iA λK hK=>?_;exact Kn w s x t ho base e i z bytes ht hi hz lw ia pp ap v xs hv hown A c ys hx da vX jY mM dV hk hs hm (λv' w' h1 h2 h3=>hK _ _ (h v' w' h1 h2 h3))
end
theorem adY(a b:ByteArray)(n m p q:Int)(w:World):(binOp .neq 128 (.agg #[.string a,.int .i64 n,.int .i64 m]) (.agg #[.string b,.int .i64 p,.int .i64 q])).run prog w = .ok (.bool (!(a.toList == b.toList&&(n == p&&m == q)))) w:=by
 have u3:=underlying3;have a3:=isAgg3;have z3:=sizeOf3;have u9:=underlying9;have a9:=isAgg9;have z9:=sizeOf9;have hS:prog.underlying 128=some (.struct (prog.fieldsOf 128)):=by kernel_rfl
 have hp:prog.stoodInHeld 128=false:=by kernel_rfl
 rw[run_neq_struct,show (10000:Nat)=9999+1 from rfl,run_equalIn_agg w 9999 128 _ _ hS hp];simp only[Program.fieldsOf,underlying128];go_simp;by_cases h0:a.toList=b.toList <;> by_cases h1:n=p <;> by_cases h2:m=q <;> simp[h0,h1,h2]
theorem VL{d x:Np.Datum}{a b:ByteArray}(ha:a.data.toList=d.text)(hb:b.data.toList=x.text):(!(a.toList == b.toList&&(d.n == x.n&&d.m == x.m)))=decide (d≠x):=by
 rw[dQ,dQ,ha,hb,Bool.eq_iff_iff];simp only[Bool.not_eq_true',Bool.and_eq_false_iff,beq_eq_false_iff_ne,Qa];obtain⟨t,n,m⟩:=d;obtain⟨t2,n2,m2⟩:=x;simp only[ne_eq,Np.Datum.mk.injEq,not_and];constructor
 ·rintro (h | h | h) rfl rfl
  ·exact absurd rfl h
  ·exact absurd rfl h
  ·exact h
 ·intro h;by_cases h1:t=t2
  ·by_cases h2:n=n2
   ·exact .inr (.inr (h h1 h2))
   ·exact .inr (.inl h2)
  ·exact .inl h1
theorem VD{α:Type}{xs ys:List α}{k:Nat}(h1:k<xs.length)(h2:k<ys.length)(h:xs.take k=ys.take k)(he:xs[k]=ys[k]):xs.take (k+1)=ys.take (k+1):=by
 rw[fQ h1,fQ h2,h,he]
theorem VC{α:Type}{xs ys:List α}{k:Nat}(hl:xs.length=ys.length)(hk:¬ k<xs.length)(h:xs.take k=ys.take k):xs=ys:=by
 rwa [kQ (by omega),kQ (by omega)] at h
theorem axQ(s1 s2:ByteArray)(t1 l1 t2 l2:Int)(v1 v2:Value)(d1 d2:List Np.Datum)(w:World)(gE:SlR bF 3 w w.heap.size v1 d1)(iz:SlR bF 3 w w.heap.size v2 d2) :
 Calls prog 63 #[.agg #[.string s1,.int .i64 t1,.int .i64 l1,v1],.agg #[.string s2,.int .i64 t2,.int .i64 l2,v2]] w
  λe w'=>e = .returned (.bool (decide (s1=s2/\t1=t2/\l1=l2/\d1=d2)))/\Below w.heap.size w w':=by
 obtain⟨r,hr⟩:∃ r,decide (s1=s2/\t1=t2/\l1=l2/\d1=d2)=r:=⟨_,rfl⟩;rw[hr];have HR:=jq hr;have zC:=jq gE;have dz:=jq iz;obtain⟨A1,c1,rfl,bD,bL⟩:=al gE;obtain⟨A2,c2,rfl,ew,dF⟩:=al iz;have kD:Below w.heap.size w ((w.alloc (.cells #[.string s1,.int .i64 t1,.int .i64 l1,.slice A1 d1.length c1] 26)).alloc (.cells #[.string s2,.int .i64 t2,.int .i64 l2,.slice A2 d2.length c2] 26)):=((vQ _ _).alloc (bQ _) _).alloc (by simp) _;have bg:=jq kD;clear hr gE iz kD;have vU:∀ x y:Int,(x != y)=decide (x≠y):=λx y=>by by_cases h:x=y <;> simp[h]
 by_cases h1:s1=s2
 case neg=>
  have h1':¬ s1.toList=s2.toList:=λe=>h1 (lH (by rw[<-dQ,<-dQ];exact e));have HF:=jq (show r=false by rw[<-HR.out];simp[h1]);clear h1 vU;go_enter func63,ntmps63;go_wp2_with fail;go_ret;exact⟨ag HF.out.symm,bg.out⟩
 case pos=>
  subst h1;by_cases h2:t1=t2
  case neg=>
   have h2':(t1 != t2)=true:=by simpa using h2
   have HF:=jq (show r=false by rw[<-HR.out];simp[h2]);clear h2 vU;go_enter func63,ntmps63;go_wp2_with fail;go_ret;exact⟨ag HF.out.symm,bg.out⟩
  case pos=>
   subst h2;by_cases h3:l1=l2
   case neg=>
    have h3':(l1 != l2)=true:=by simpa using h3
    have HF:=jq (show r=false by rw[<-HR.out];simp[h3]);clear h3 vU;go_enter func63,ntmps63;go_wp2_with fail;go_ret;exact⟨ag HF.out.symm,bg.out⟩
   case pos=>
    subst h3;by_cases h4:d1.length=d2.length
    case neg=>
     have h4':((d1.length:Int) != (d2.length:Int))=true:=by rw[vU];simp;omega
     have HF:=jq (show r=false by rw[<-HR.out];simp;intro e;exact h4 (by rw[e]));clear h4 vU;go_enter func63,ntmps63;go_wp2_with fail;go_ret;exact⟨ag HF.out.symm,bg.out⟩
    case pos=>
     have h4':((d1.length:Int) != (d2.length:Int))=false:=by rw[vU];simp;omega
     have HL:=jq h4;clear h4 vU;go_enter func63,ntmps63;go_wp2_with fail;have an:((w.alloc (.cells #[.string s1,.int .i64 t1,.int .i64 l1,.slice A1 d1.length c1] 26)).alloc (.cells #[.string s1,.int .i64 t1,.int .i64 l1,.slice A2 d2.length c2] 26)).heap.size=w.heap.size+1+1:=by simp
     have q1:((w.alloc (.cells #[.string s1,.int .i64 t1,.int .i64 l1,.slice A1 d1.length c1] 26)).alloc (.cells #[.string s1,.int .i64 t1,.int .i64 l1,.slice A2 d2.length c2] 26)).cell? ⟨w.heap.size,3,none⟩=some (.slice A1 d1.length c1):=by simp[go_sem]
     have q2:((w.alloc (.cells #[.string s1,.int .i64 t1,.int .i64 l1,.slice A1 d1.length c1] 26)).alloc (.cells #[.string s1,.int .i64 t1,.int .i64 l1,.slice A2 d2.length c2] 26)).cell? ⟨w.heap.size+1,3,none⟩=some (.slice A2 d2.length c2):=by simp[go_sem]
     generalize mf:((w.alloc (.cells #[.string s1,.int .i64 t1,.int .i64 l1,.slice A1 d1.length c1] 26)).alloc (.cells #[.string s1,.int .i64 t1,.int .i64 l1,.slice A2 d2.length c2] 26))=wa at *;have HQ:=jq (And.intro q1 (And.intro q2 an));clear mf q1 q2 an;go_loopw [5] (λi wr=>∃ k:Nat,k<=d1.length/\i = .int .i64 k/\Hid (d1.take k=d2.take k)/\Hid (Below wa.heap.size wa wr)) (λi _=>d1.length - (intOf i).toNat)
     case atStart=>exact⟨0,jQ _,rfl,jq rfl,jq (vQ _ _)⟩
     case round=>
      obtain⟨k,hk,rfl,HN,HB⟩:=hrel;have aL:=bg.out.trans (HB.out.mono bg.out.size);have rL:=HQ.out;have g1:=(cl HB.out (by omega)).trans rL.1;have g2:=(cl HB.out (by omega)).trans rL.2.1;clear rL;by_cases aa:k<d1.length
      ·have yt:k<d2.length:=by have:=HL.out;omega
       obtain⟨b,o,c',s,hv,bC,_,bl,_,e0,e1,e2⟩:=DF zC.out (aQ aa);simp only[Value.slice.injEq,true_and] at hv;obtain⟨rfl,rfl⟩:=hv;obtain⟨b',o',c'',s',hv,yi,_,gG,_,f0,f1,f2⟩:=DF dz.out (aQ yt);simp only[Value.slice.injEq,true_and] at hv;obtain⟨rfl,rfl⟩:=hv;have HT:=jq (VD aa yt HN.out);have ld:=jq (show d1[k]≠d2[k]->r=false from λhne=>by rw[<-HR.out];simp;intro e;subst e;exact hne rfl);generalize d1[k]=x at *;generalize d2[k]=y at *;replace e0:=(aL.cell (p:=⟨b,o+k * 3,none⟩) bC).trans e0;replace e1:=(aL.cell (p:=⟨b,o+k * 3+1,none⟩) bC).trans e1;replace e2:=(aL.cell (p:=⟨b,o+k * 3+2,none⟩) bC).trans e2;replace f0:=(aL.cell (p:=⟨b',o'+k * 3,none⟩) yi).trans f0;replace f1:=(aL.cell (p:=⟨b',o'+k * 3+1,none⟩) yi).trans f1;replace f2:=(aL.cell (p:=⟨b',o'+k * 3+2,none⟩) yi).trans f2;have bX:(0:Int)<=(k:Int):=by omega
       have bW:(k:Int)<(d1.length:Int):=by omega
       have jw:(k:Int)<(d2.length:Int):=by omega
       have heq:=adY s s' x.n x.m y.n y.m;rw[VL bl gG] at heq;clear aL bl gG;by_cases hx:x=y
       ·have HX:=jq hx;have kj:decide (x≠y)=false:=by simpa using hx
        rw[kj] at heq;clear hx kj;go_wp2_with fail;go_quiet (fail);go_wp2_with fail;go_roundw
        case rel=>exact⟨k+1,by omega,by go_num,jq (HT.out HX.out),jq (below_drewN HB.out _)⟩
        case measure=>simp[intOf] <;> omega
       ·have HX:=jq hx;have kj:decide (x≠y)=true:=by simpa using hx
        rw[kj] at heq;clear hx kj;go_wp2_with fail;go_quiet (fail);go_wp2_with fail;go_ret;exact⟨ag (ld.out HX.out).symm,below_drewN (bg.out.trans (HB.out.mono bg.out.size)) _⟩
      ·go_wp2_with fail;go_ret;refine⟨ag ?_,bg.out.trans (HB.out.mono bg.out.size)⟩;rw[<-HR.out]
       have:=VC HL.out aa HN.out
       simp[this]
end
namespace Np
def Stop(y:List UInt8):Prop:=y = []\/∃ c r,y=c::r/\rX c=false
def Lx(x:List UInt8)(ts:List Tok)(free:Bool):Prop:=
 ∀ (y:List UInt8) (p k:Nat),(free=true\/Stop y)->k<=2000->
   (k+ts.length<=2000->∃ ts',ts'.map DD=ts.map DD/\od (x++y) p k=(ts'++(od y (p+x.length) (k+ts.length)).1,(od y (p+x.length) (k+ts.length)).2))/\
   (2000<k+ts.length->(od (x++y) p k).2.1=2)
theorem Lx.weaken{x:List UInt8}{ts:List Tok}{f:Bool}(h:Lx x ts f):Lx x ts false:=λy p k hy hk=>
 h y p k (.inr (by rcases hy with hy | hy;cases hy;exact hy)) hk
theorem acQ:∀ (s:List UInt8) (c:UInt8),c∈s->c=46\/∃ x∈aW s,c∈x:=by
 intro s
 induction s with
 | nil=>intro c h;cases h
 | cons a r ih=>
  intro c hc;rw[aW];by_cases ha:a=46
  ·rw[Qb ha];rcases List.mem_cons.1 hc with e | e
   ·exact .inl (e.trans ha)
   ·rcases ih c e with h | ⟨x,hx,Ed⟩
    ·exact .inl h
    ·exact .inr ⟨x,mQ _ hx,Ed⟩
  ·rw[Qc ha];have hne:=qs r
   cases hr:aW r with
   | nil=>exact absurd hr hne
   | cons y ys=>
    rw[hr] at ih;rcases List.mem_cons.1 hc with e | e
    ·exact .inr ⟨a::y,by simp,by simp[e]⟩
    ·rcases ih c e with h | ⟨x,hx,Ed⟩
     ·exact .inl h
     ·rcases List.mem_cons.1 hx with rfl | hx
      ·exact .inr ⟨a::x,by simp,by simp[Ed]⟩
      ·exact .inr ⟨x,by simp[hx],Ed⟩
theorem Z0{c:UInt8}(h:mj c=true):rX c=true:=by
 unfold mj at h;have hl:∀ c:UInt8,qk c=true\/nh c=true->cls c=3:=by
  intro c h;have hne:¬ (c=32\/c=9\/c=10)/\c≠35:=by
   constructor
   ·rintro (rfl | rfl | rfl) <;> revert h <;> decide
   ·rintro rfl;revert h;decide
  unfold cls;rw[Qc hne.1,Qc hne.2,Qb (by rcases h with h | h <;> simp[h])]
 simp only[Bool.or_eq_true,beq_iff_eq] at h;unfold rX;rcases h with h | h
 ·rw[hl c h];rfl
 ·subst h;decide
theorem abJ{c:UInt8}(h:qk c=true\/nh c=true):cls c=3:=by
 have hne:¬ (c=32\/c=9\/c=10)/\c≠35:=by
  constructor
  ·rintro (rfl | rfl | rfl) <;> revert h <;> decide
  ·rintro rfl;revert h;decide
 unfold cls;rw[Qc hne.1,Qc hne.2,Qb (by rcases h with h | h <;> simp[h])]
theorem Z1{x:List UInt8}(h:cg x=true\/x = [42]):∀ c∈x,rX c=true:=by
 rcases h with h | rfl
 ·unfold cg at h;simp only[Bool.and_eq_true] at h;exact λc hc=>Z0 (List.all_eq_true.1 h.2 c hc)
 ·intro c hc;simp at hc;subst hc;decide
theorem Z2{x:List UInt8}(h:cg x=true\/x = [42]):∃ c r,x=c::r/\cls c=3:=by
 rcases h with h | rfl
 ·unfold cg at h;simp only[Bool.and_eq_true,Qa,Bool.not_eq_true',beq_eq_false_iff_ne] at h
  cases x with
  | nil=>simp at h
  | cons c r=>
   refine⟨c,r,rfl,abJ ?_⟩;have h1:=List.all_eq_true.1 h.2 c (by simp);have h2:=h.1.1.2;simp only[List.head?_cons,ne_eq,Option.some.injEq] at h2;simp only[mj,Bool.or_eq_true,beq_iff_eq] at h1;rcases h1 with h1 | h1
   ·exact h1
   ·exact absurd h1 h2
 ·exact⟨42,[],rfl,by decide⟩
theorem J0:∀ (s:List UInt8),∃ h t,aW s=h::t/\(∀ c r,h=c::r->∃ r',s=c::r'):=by
 intro s
 cases s with
 | nil=>exact⟨[],[],rfl,λc r h=>by cases h⟩
 | cons a r=>
  rw[aW];by_cases ha:a=46
  ·rw[Qb ha];exact⟨[],_,rfl,λc r h=>by cases h⟩
  ·rw[Qc ha];have hne:=qs r
   cases hr:aW r with
   | nil=>exact absurd hr hne
   | cons x xs=>exact⟨a::x,xs,rfl,λc r' h=>by cases h;exact⟨_,rfl⟩⟩
theorem yO{s:List UInt8}(h:aG s=true):s.length<=60/\(s = [46]\/∃ c r,s=c::r/\cls c=3/\s.all rX=true):=by
 unfold aG at h;split at h
 ·rename_i e;subst e;exact⟨by decide,.inl rfl⟩
 ·split at h
  ·cases h
  ·rename_i DP;have hg:=Nh _ _ _ h;have hl:∀ x∈aW s,cg x=true\/x = [42]:=λx hx=>(hg x (List.mem_reverse.2 hx)).symm;obtain⟨a,t,e1,e2⟩:=J0 s;obtain⟨c,r,rfl,hc⟩:=Z2 (hl a (by rw[e1];simp));obtain⟨r',rfl⟩:=e2 c r rfl;refine⟨by omega,.inr ⟨c,r',rfl,hc,List.all_eq_true.2 λb hb=>?_⟩⟩;rcases acQ _ b hb with rfl | ⟨x,hx,eR⟩
   ·decide
   ·exact Z1 (hl x hx) b eR
theorem MU{k:Nat}(h:k<10):nh (UInt8.ofNat (48+k))=true/\(UInt8.ofNat (48+k)).toNat=48+k:=by
 have:k=0\/k=1\/k=2\/k=3\/k=4\/k=5\/k=6\/k=7\/k=8\/k=9:=by omega
 rcases this with rfl | rfl | rfl | rfl | rfl | rfl | rfl | rfl | rfl | rfl <;> exact⟨by decide,by decide⟩
theorem Hq(n:Nat):(mH n).all nh=true/\mH n≠[]/\dec (mH n)=n/\(1<=n->(mH n).head?≠some 48)/\(n<10->(mH n).length=1):=by
 induction n using Nat.strongRecOn with
 | ind n ih=>
  rw[mH];split
  ·rename_i h;have hd:=MU h;refine⟨by rw[List.all_cons,hd.1];rfl,by simp,by show 10 * 0+((UInt8.ofNat (48+n)).toNat - 48)=n;rw[hd.2];omega,λh1=>?_,λ_=>rfl⟩;simp only[List.head?_cons,ne_eq,Option.some.injEq];intro e
   have:=Qd UInt8.toNat e
   rw[hd.2] at this;simp at this;omega
  ·rename_i h;obtain⟨i1,i2,i3,i4,_⟩:=ih (n / 10) (by omega);have hd:=MU (k:=n % 10) (by omega);refine⟨by rw[List.all_append,i1,List.all_cons,hd.1];rfl,by simp,?_,λ_=>?_,λh2=>absurd h2 h⟩
   ·rw[VO,i3,hd.2];omega
   ·rw[XC i2];exact i4 (by omega)
def aX(n:Int):List UInt8:=mH n.toNat
def pN(d:Datum):List (List UInt8):=[d.text,aX d.n,aX d.m]
def sk(g:Sig):List (List UInt8):=[g.zone,aX g.key,aX g.alg,aX g.frm,aX g.til,aX g.sum]
def x8(s:Signed):List (List UInt8):=[s.set.name,aX s.set.type,aX s.set.life,aX s.set.data.length]++(s.set.data.flatMap pN++s.sigs.flatMap sk)
def bZ(l:List (List UInt8)):List UInt8:=l.flatMap λf=>f ++ [47]
def dR(s:Signed):List UInt8:=bZ (x8 s)
theorem Rd:∀ (x y r q:List UInt8),47∉x->47∉y->x++47::r=y++47::q->x=y/\r=q
 | [],[],r,q,_,_,h=>⟨rfl,by simpa using h⟩
 | [],b::y,r,q,_,hy,h=>by
   simp only[List.nil_append,List.cons_append,List.cons.injEq] at h;exact absurd (h.1 ▸ List.mem_cons_self) hy
 | a::x,[],r,q,hx,_,h=>by
   simp only[List.nil_append,List.cons_append,List.cons.injEq] at h;exact absurd (h.1 ▸ List.mem_cons_self) hx
 | a::x,b::y,r,q,hx,hy,h=>by
   simp only[List.cons_append,List.cons.injEq] at h;obtain⟨h1,h2⟩:=Rd x y r q (λhm=>hx (mQ _ hm)) (λhm=>hy (mQ _ hm)) h.2;exact⟨by rw[h.1,h1],h2⟩
theorem x7(f:List UInt8)(l:List (List UInt8)):bZ (f::l)=f++47::bZ l:=by simp[bZ]
theorem MW:∀ (a b:List (List UInt8)),(∀ x∈a,47∉x)->(∀ x∈b,47∉x)->bZ a=bZ b->a=b
 | [],[],_,_,_=>rfl
 | [],f::b,_,_,h=>by rw[x7] at h;simp[bZ] at h
 | f::a,[],_,_,h=>by rw[x7] at h;simp[bZ] at h
 | f::a,g::b,ha,hb,h=>by
   rw[x7,x7] at h;obtain⟨h1,h2⟩:=Rd f g _ _ (ha f (by simp)) (hb g (by simp)) h;rw[h1,MW a b (λx hx=>ha x (mQ _ hx)) (λx hx=>hb x (mQ _ hx)) h2]
theorem pO{a b:Int}(ha:0<=a)(hb:0<=b)(h:aX a=aX b):a=b:=by
 have h1:=(Hq a.toNat).2.2.1;have h2:=(Hq b.toNat).2.2.1;unfold aX at h;rw[h] at h1;omega
theorem pR(a:Int):47∉aX a:=λhm=>by
 have h1:=(Hq a.toNat).1
 have:=List.all_eq_true.1 h1 47 hm
 revert this;decide
structure Plain47(s:Signed):Prop where
 name:47∉s.set.name
 type:0<=s.set.type
 life:0<=s.set.life
 data:∀ d∈s.set.data,47∉d.text/\0<=d.n/\0<=d.m
 sigs:∀ g∈s.sigs,47∉g.zone/\0<=g.key/\0<=g.alg/\0<=g.frm/\0<=g.til/\0<=g.sum
theorem Plain47.fields{s:Signed}(h:Plain47 s):∀ x∈x8 s,47∉x:=λx hx=>by
 unfold x8 at hx;rcases List.mem_append.1 hx with hx | hx
 ·simp only[List.mem_cons,Qh,or_false] at hx;rcases hx with rfl | rfl | rfl | rfl
  ·exact h.name
  ·exact pR _
  ·exact pR _
  ·exact pR _
 ·rcases List.mem_append.1 hx with hx | hx
  ·obtain⟨d,hd,hx⟩:=List.mem_flatMap.1 hx;simp only[pN,List.mem_cons,Qh,or_false] at hx;rcases hx with rfl | rfl | rfl
   ·exact (h.data d hd).1
   ·exact pR _
   ·exact pR _
  ·obtain⟨g,hg,hx⟩:=List.mem_flatMap.1 hx;simp only[sk,List.mem_cons,Qh,or_false] at hx;rcases hx with rfl | rfl | rfl | rfl | rfl | rfl
   ·exact (h.sigs g hg).1
   ·exact pR _
   ·exact pR _
   ·exact pR _
   ·exact pR _
   ·exact pR _
theorem MS:∀ (a b:List Datum) (r q:List (List UInt8)),a.length=b.length->(∀ d∈a,0<=d.n/\0<=d.m)->(∀ d∈b,0<=d.n/\0<=d.m)->a.flatMap pN++r=b.flatMap pN++q->a=b/\r=q
 | [],[],r,q,_,_,_,h=>⟨rfl,by simpa using h⟩
 | [],_::_,_,_,hl,_,_,_=>by simp at hl
 | _::_,[],_,_,hl,_,_,_=>by simp at hl
 | x::a,y::b,r,q,hl,ha,hb,h=>by
   simp only[List.flatMap_cons,pN,List.cons_append,List.nil_append,List.cons.injEq] at h;obtain⟨h1,h2,h3,h4⟩:=h;obtain⟨h5,h6⟩:=MS a b r q (by simpa using hl) (λd hd=>ha d (mQ _ hd)) (λd hd=>hb d (mQ _ hd)) h4;have hx:=ha x (by simp);have hy:=hb y (by simp);have e:x=y:=by
    obtain⟨_,_,_⟩:=x;obtain⟨_,_,_⟩:=y;simp only at h1 h2 h3 hx hy;rw[h1,pO hx.1 hy.1 h2,pO hx.2 hy.2 h3]
   exact⟨by rw[e,h5],h6⟩
theorem Rb:∀ (a b:List Sig),(∀ g∈a,0<=g.key/\0<=g.alg/\0<=g.frm/\0<=g.til/\0<=g.sum)->(∀ g∈b,0<=g.key/\0<=g.alg/\0<=g.frm/\0<=g.til/\0<=g.sum)->a.flatMap sk=b.flatMap sk->a=b
 | [],[],_,_,_=>rfl
 | [],_::_,_,_,h=>by simp[sk] at h
 | _::_,[],_,_,h=>by simp[sk] at h
 | x::a,y::b,ha,hb,h=>by
   simp only[List.flatMap_cons,sk,List.cons_append,List.nil_append,List.cons.injEq] at h;obtain⟨h1,h2,h3,h4,h5,h6,h7⟩:=h;have hx:=ha x (by simp);have hy:=hb y (by simp);have e:x=y:=by
    obtain⟨_,_,_,_,_,_⟩:=x;obtain⟨_,_,_,_,_,_⟩:=y;simp only at h1 h2 h3 h4 h5 h6 hx hy;rw[h1,pO hx.1 hy.1 h2,pO hx.2.1 hy.2.1 h3,pO hx.2.2.1 hy.2.2.1 h4,pO hx.2.2.2.1 hy.2.2.2.1 h5,pO hx.2.2.2.2 hy.2.2.2.2 h6]
   rw[e,Rb a b (λg hg=>ha g (mQ _ hg)) (λg hg=>hb g (mQ _ hg)) h7]
theorem JC{s t:Signed}(hs:Plain47 s)(ht:Plain47 t)(h:dR s=dR t):s=t:=by
 have h:=MW _ _ hs.fields ht.fields h;unfold x8 at h;simp only[List.cons_append,List.nil_append,List.cons.injEq] at h;obtain⟨h1,h2,h3,h4,h5⟩:=h;have e4:=pO (by omega) (by omega) h4;obtain⟨h6,h7⟩:=MS _ _ _ _ (by omega) (λd hd=>(hs.data d hd).2) (λd hd=>(ht.data d hd).2) h5;have h8:=Rb _ _ (λg hg=>(hs.sigs g hg).2) (λg hg=>(ht.sigs g hg).2) h7;have e2:=pO hs.type ht.type h2;have e3:=pO hs.life ht.life h3;obtain⟨⟨_,_,_,_⟩,_⟩:=s;obtain⟨⟨_,_,_,_⟩,_⟩:=t;simp only at h1 e2 e3 h6 h8;rw[h1,e2,e3,h6,h8]
def xW(s:Signed):Prop:=∀ g∈s.sigs,0<=g.sum/\g.sum<18446744073709551616
def jS(h:Hist):Prop:=∀ c∈h.copies,∀ s∈c.zone.sets,xW s
theorem awZ{c:UInt8}(h:rX c=true):c≠47:=by rintro rfl;revert h;decide
theorem EQ{l:List UInt8}(h:aG l=true):47∉l:=λhm=>by
 obtain⟨_,rfl | ⟨c,r,rfl,_,hr⟩⟩:=yO h
 ·revert hm;decide
 ·exact awZ (List.all_eq_true.1 hr 47 hm) rfl
theorem Wk{l:List UInt8}(h:jC l=true):47∉l:=λhm=>by
 unfold jC at h;simp only[Bool.and_eq_true] at h
 have:=List.all_eq_true.1 h.2 47 hm
 revert this;decide
theorem aCJ{k:Int}{l:List UInt8}(h:xb k l=true):47∉l:=by
 unfold xb at h;split at h
 ·simp only[Bool.and_eq_true] at h;exact EQ h.1
 ·split at h
  ·exact EQ h
  ·split at h
   ·exact Wk h
   ·have:l = []:=by simpa using h
    rw[this];simp
theorem QY(k:Int):0<=(bT k).leastN/\0<=(bT k).leastM:=by
 unfold bT;generalize k.toNat=n;by_cases h:n<9
 ·have:∀ m,m<9->0<=(rules.getD m ⟨0,0,0,0,0,false,false,false⟩).leastN/\0<=(rules.getD m ⟨0,0,0,0,0,false,false,false⟩).leastM:=by decide
  exact this n h
 ·have e:rules[n]?=none:=List.getElem?_eq_none (by simp[rules];omega);rw[List.getD_eq_getElem?_getD,e];decide
theorem VM{k:Int}{d:Datum}(h:jG (bT k) d=true):47∉d.text/\0<=d.n/\0<=d.m:=by
 unfold jG at h;simp only[Bool.and_eq_true,Qa] at h;obtain⟨⟨⟨⟨h1,_⟩,h2,_⟩,_⟩,h3⟩:=h
 have:=QY k
 exact⟨aCJ h3,by omega,by omega⟩
theorem xg{z:Zone}(v:VZone z):aG z.apex=true/\∀ x∈z.sets,dj x.set=true:=by
 have h:=v.right;unfold eF at h;simp only[Bool.and_eq_true] at h;exact⟨h.1.1,DN h.2⟩
theorem Kq{z:Zone}(v:VZone z){x:Signed}(hx:x∈z.sets)(hs:xW x):Plain47 x:=by
 obtain⟨ha,hv⟩:=xg v;obtain⟨h1,h2,h3,h4,h5,h6,h7,h8⟩:=sr (hv x hx);refine⟨EQ h1,by omega,h4,λd hd=>VM (Hz h8 d hd),λg hg=>?_⟩;obtain⟨i,hi⟩:=List.mem_iff_getElem?.1 hg
 have:=(v.form x hx).2 i g hi
 exact⟨by rw[this.zone];exact EQ ha,by have:=this.key;omega,by have:=this.alg;omega,this.win.1,by have:=this.win;omega,(hs g hg).1⟩
def ni(us:List Signed):List (List UInt8×Value):=us.zipIdx.map λp=>(dR p.1,.int .i64 ((p.2:Nat):Int))
theorem ZW(us:List Signed)(s:Signed):ni (us ++ [s])=ni us ++ [(dR s,.int .i64 ((us.length:Nat):Int))]:=by
 unfold ni;rw[List.zipIdx_append,List.map_append];simp
theorem PE:∀ (us:List Signed) (n:Nat) (s:Signed),Plain47 s->(∀ x∈us,Plain47 x)->s∉us->((us.zipIdx n).map λp=>(dR p.1,Value.int .i64 ((p.2:Nat):Int))).lookup (dR s)=none
 | [],_,_,_,_,_=>rfl
 | x::us,n,s,hs,hu,hn=>by
   rw[List.zipIdx_cons,List.map_cons,List.lookup_cons];have hne:(dR s == dR x)=false:=by
    rw[beq_eq_false_iff_ne];intro e;exact hn (by rw[JC hs (hu x (by simp)) e];simp)
   rw[hne];exact PE us (n+1) s hs (λy hy=>hu y (mQ _ hy)) (λh=>hn (mQ _ h))
theorem ZV{us:List Signed}{s:Signed}(hs:Plain47 s)(hu:∀ x∈us,Plain47 x)(hn:s∉us):(ni us).lookup (dR s)=none:=PE us 0 s hs hu hn
theorem PF:∀ (us:List Signed) (n:Nat) (s:Signed) (i:Nat),Plain47 s->(∀ x∈us,Plain47 x)->us.Nodup->us[i]?=some s->((us.zipIdx n).map λp=>(dR p.1,Value.int .i64 ((p.2:Nat):Int))).lookup (dR s)=some (.int .i64 ((n+i:Nat):Int))
 | [],_,_,_,_,_,_,h=>by simp at h
 | x::us,n,s,i,hs,hu,hd,h=>by
   rw[List.zipIdx_cons,List.map_cons,List.lookup_cons]
   cases i with
   | zero=>
    have e:x=s:=by simpa using h
    subst e;simp
   | succ i=>
    have h':us[i]?=some s:=by simpa using h
    have hne:(dR s == dR x)=false:=by
     rw[beq_eq_false_iff_ne];intro e
     have:=JC hs (hu x (by simp)) e
     subst this;exact (List.nodup_cons.1 hd).1 (gQ h')
    rw[hne]
    have:=PF us (n+1) s i hs (λy hy=>hu y (mQ _ hy)) (List.nodup_cons.1 hd).2 h'
    rw[show n+(i+1)=n+1+i by omega];exact this
theorem ZX{us:List Signed}{s:Signed}{i:Nat}(hs:Plain47 s)(hu:∀ x∈us,Plain47 x)(hd:us.Nodup)(h:us[i]?=some s):(ni us).lookup (dR s)=some (.int .i64 ((i:Nat):Int)):=by
 have:=PF us 0 s i hs hu hd h
 rwa [Nat.zero_add] at this
def ej(ps:List (Span×Signed)):List (Signed×List Span):=(cM (ps.map (·.2))).map λs=>(s,fN ps s)
theorem acZ(ps:List (Span×Signed)):(ej ps).map (·.1)=cM (ps.map (·.2)):=by
 unfold ej;rw[List.map_map];exact List.map_id'' (λ_=>rfl) _
theorem acJ(f:List Span->List Span)(zone:List UInt8)(ps:List (Span×Signed)):tn f zone ps=(ej ps).map λx=>⟨zone,x.1,f x.2,[]⟩:=by
 unfold tn ej;rw[List.map_map];rfl
theorem acX{ps:List (Span×Signed)}{p:Span×Signed}(h:p.2∉cM (ps.map (·.2))):ej (ps ++ [p])=ej ps ++ [(p.2,[p.1])]:=by
 have hn:p.2∉ps.map (·.2):=λhm=>h (wI.2 hm);unfold ej;rw[List.map_append,List.map_singleton,CF,jT,Qc h,List.map_append];congr 1
 ·refine List.map_congr_left λs hs=>?_;rw[Fg,Qc (show ¬ p.2=s from λe=>h (by rw[e];exact hs))]
 ·simp[Fg,aCY hn]
theorem acY{ps:List (Span×Signed)}{p:Span×Signed}{i:Nat}(h:(cM (ps.map (·.2)))[i]?=some p.2):ej (ps ++ [p])=(ej ps).set i (p.2,fN ps p.2 ++ [p.1]):=by
 obtain⟨hi,he⟩:=cQ.1 h;have hm:p.2∈cM (ps.map (·.2)):=by rw[<-he];exact List.getElem_mem _
 have p9:=yR (ps.map (·.2));have hu:cM ((ps ++ [p]).map (·.2))=cM (ps.map (·.2)):=by rw[List.map_append,List.map_singleton,CF,Hi hm]
 refine List.ext_getElem? λj=>?_;rw[List.getElem?_set];unfold ej;rw[hu,List.getElem?_map,List.getElem?_map,List.length_map];by_cases dD:i=j
 ·subst dD;rw[Qb rfl,Qb hi,h,Option.map_some,Fg,Qb rfl]
 ·rw[Qc dD]
  cases hj:(cM (ps.map (·.2)))[j]? with
  | none=>rfl
  | some s=>
   obtain⟨tv,tw⟩:=cQ.1 hj;have hne:p.2≠s:=λe=>dD ((List.getElem_inj (h₀:=hi) (h₁:=tv) p9).1 (he.trans (e.trans tw.symm)));rw[Option.map_some,Option.map_some,Fg,Qc hne]
theorem acK(ps:List (Span×Signed)):(ej ps).length=(cM (ps.map (·.2))).length:=List.length_map _
end Np
section
open Go.RowKit
structure BldT(T:TypeId):Prop where
 lies:liesAt prog prog.depth T (2 / prog.cellsOf T) 0 198 1=true
 ne:T≠5
def Bld(T:TypeId)(B b:Nat)(r:Option Nat)(l:List UInt8)(w:World):Prop:=
 ∃ p v,(p = .pointer none\/p = .pointer (some ⟨b,0,none⟩))/\B<=b/\w.heap[b]?=some (.cells #[p,v] T (0,0))/\w.ownsRow B 5 1 v l.length (Lib.byteCells l)/\v.ownBlock=r/\r≠some b/\(l = []->v = .slice none 0 0)
structure BS(b:Nat)(r:Option Nat)(w:World)(r':Option Nat)(w':World):Prop where
 os:w'.os=w.os
 tape:w'.tape=w.tape
 output:w'.output=w.output
 size:w.heap.size<=w'.heap.size
 keep:∀ k,k<w.heap.size->k≠b->r≠some k->w'.heap[k]?=w.heap[k]?
 at_:r'=r\/∃ k,w.heap.size<=k/\r'=some k
theorem BS.refl(b:Nat)(r:Option Nat)(w:World):BS b r w r w:=⟨rfl,rfl,rfl,bQ _,λ_ _ _ _=>rfl,.inl rfl⟩
theorem BS.trans{b:Nat}{r r' r'':Option Nat}{w w' w'':World}(h:BS b r w r' w')(k:BS b r' w' r'' w''):BS b r w r'' w'':=by
 refine⟨k.os.trans h.os,k.tape.trans h.tape,k.output.trans h.output,yQ h.size k.size,λi hi hb hr=>?_,?_⟩
 ·refine (k.keep i (lQ hi h.size) hb (λe=>?_)).trans (h.keep i hi hb hr);rcases h.at_ with e' | ⟨j,hj,e'⟩
  ·rw[e'] at e;exact hr e
  ·rw[e'] at e;simp at e;omega
 ·rcases k.at_ with e | ⟨j,hj,e⟩
  ·rcases h.at_ with e' | ⟨j,hj,e'⟩
   ·exact .inl (e.trans e')
   ·exact .inr ⟨j,hj,e.trans e'⟩
  ·exact .inr ⟨j,yQ h.size hj,e⟩
theorem BS.of_below{b:Nat}{r:Option Nat}{w w':World}(h:Below w.heap.size w w'):BS b r w r w':=⟨h.os,h.tape,h.output,h.size,λk hk _ _=>h.block k hk,.inl rfl⟩
theorem BS.after{b:Nat}{r r':Option Nat}{w w' w'':World}(h:BS b r w r' w')(k:Below w'.heap.size w' w''):BS b r w r' w'':=h.trans (BS.of_below k)
theorem BS.below{b:Nat}{r r':Option Nat}{w w':World}{n:Nat}(h:BS b r w r' w')(hb:n<=b)(hr:∀ k,r=some k->n<=k)(hn:n<=w.heap.size):Below n w w':=
 ⟨h.os,h.tape,h.output,h.size,λk hk=>h.keep k (by omega) (by omega) (λe=>by have:=hr k e;omega)⟩
theorem BS.cell{b:Nat}{r r':Option Nat}{w w':World}(h:BS b r w r' w'){k:Nat}(hk:k<w.heap.size)(hb:k≠b)(hr:r≠some k)(o:Nat):w'.cell? ⟨k,o,none⟩=w.cell? ⟨k,o,none⟩:=iQ (w:=w) (h.keep k hk hb hr)
theorem BS.free{b:Nat}{r r':Option Nat}{w w':World}(h:BS b r w r' w'){k:Nat}(hk:k<w.heap.size)(hr:r≠some k):r'≠some k:=λe=>by
 rcases h.at_ with e' | ⟨j,hj,e'⟩
 ·rw[e'] at e;exact hr e
 ·rw[e'] at e;simp at e;omega
theorem Bld.row{T:TypeId}{B b:Nat}{r:Option Nat}{l:List UInt8}{w:World}(h:Bld T B b r l w):B<=b/\b<w.heap.size/\∀ k,r=some k->B<=k/\k<w.heap.size:=by
 obtain⟨p,v,_,hB,hb,ho,rfl,_,_⟩:=h;exact⟨hB,(eQ.1 hb).1,λk hk=>ho.lt k hk⟩
theorem Bld.keep{T:TypeId}{B b:Nat}{r:Option Nat}{l:List UInt8}{w w':World}(h:Bld T B b r l w)(hb:Below w.heap.size w w'):Bld T B b r l w':=by
 have hrow:=h.row;obtain⟨p,v,hp,hB,hh,ho,rfl,hne,hn⟩:=h;refine⟨p,v,hp,hB,(hb.block b hrow.2.1).trans hh,gp ho (λg hg=>hb.block g (hrow.2.2 g hg).2),rfl,hne,hn⟩
theorem Bld.fresh(T:TypeId)(w:World):Bld T w.heap.size w.heap.size none [] (w.alloc (.cells #[.pointer none,.slice none 0 0] T)):=
 ⟨_,_,.inl rfl,bQ _,heap_alloc_new w _,World.ownsRow_nil _ _ _ _,rfl,by simp,λ_=>rfl⟩
theorem ahZ{w:World}{base:Nat}{e T:TypeId}{v:Value}{n:Nat}{xs:List Value}{b:Nat}{cs:Array Value}{fr:Nat×Nat}(ho:w.ownsRow base e 1 v n xs)(hb:w.heap[b]?=some (.cells cs T fr))(hT:T≠e):v.ownBlock≠some b:=by
 intro h;rcases ho.2 with ⟨rfl,_⟩ | ⟨g,cap,cur,rfl,_,hg,_⟩
 ·cases h
 ·have:g=b:=Option.some.inj h
  subst this;rw[hb] at hg;simp only[Option.some.injEq,Obj.cells.injEq] at hg;exact hT hg.2.1
theorem Vc:prog.cellsOf 5=1:=by kernel_rfl
theorem Rc:(prog.info? 198).map (·.size)=some 2:=by kernel_rfl
theorem VB(b:Nat)(w:World)(h0:w.cell? ⟨b,0,none⟩=some (.pointer (some ⟨b,0,none⟩))) :
 Calls prog 210 #[.pointer (some ⟨b,0,none⟩)] w λe w'=>e = .returned (.tuple #[])/\w'=w:=by
 obtain⟨j,hj,_⟩:=Option.map_eq_some_iff.1 Rc;go_enter func210,ntmps210;go_wp2;rw[Lib.run_neq_ptr_same w _ underlying195 hj];go_wp2;go_end0;exact⟨rfl,rfl⟩
theorem Vz{T:TypeId}(hT:BldT T)(b:Nat)(w:World)(h0:w.cell? ⟨b,0,none⟩=some (.pointer none))(OT:w.shape? b=some (T,2))(tq:w.frozen? ⟨b,0,none⟩=false) :
 Calls prog 210 #[.pointer (some ⟨b,0,none⟩)] w λe w'=>e = .returned (.tuple #[])/\w'=w.setCell ⟨b,0,none⟩ (.pointer (some ⟨b,0,none⟩)):=by
 obtain⟨j,hj,BE⟩:=Option.map_eq_some_iff.1 Rc;go_enter func210,ntmps210;go_wp2;rw[Lib.run_to_unsafe w ⟨b,0,none⟩ underlying195 underlying325 hj (by rw[BE];decide) OT (Nat.zero_lt_succ 1)];simp only[Result.andThen];rw[Oper.upon_value];go_wp2;rw[run_callFunc_extern func283 (by kernel_rfl) (by kernel_rfl) (by kernel_rfl) (e:=Extern.AbiNoEscape.same) (by kernel_rfl)];rw[Lib.run_noEscape];simp only[Result.andThen];rw[Oper.upon_value];go_wp2;rw[Lib.run_from_unsafe w ⟨b,0,none⟩ underlying325 underlying195 hj OT hT.lies];simp only[Result.andThen];rw[Oper.upon_value];go_wp2;go_end0;exact⟨rfl,rfl⟩
def Used(T:TypeId)(B b:Nat)(r:Option Nat)(l:List UInt8)(w:World):Prop:=
 ∃ v,B<=b/\w.heap[b]?=some (.cells #[.pointer (some ⟨b,0,none⟩),v] T (0,0))/\w.ownsRow B 5 1 v l.length (Lib.byteCells l)/\v.ownBlock=r/\r≠some b/\(l = []->v = .slice none 0 0)
theorem MJ{T:TypeId}(hT:BldT T)(B b:Nat)(r:Option Nat)(l:List UInt8)(w:World)(h:Bld T B b r l w) :
 Calls prog 210 #[.pointer (some ⟨b,0,none⟩)] w λe w'=>e = .returned (.tuple #[])/\Used T B b r l w'/\BS b r w r w':=by
 obtain⟨p,v,hp,hB,hb,ho,hr,hne,hn⟩:=h;have aa:=(eQ.1 hb).1;rcases hp with rfl | rfl
 ·refine (Vz hT b w (by rw[Lib.cell_of_heap hb];rfl) (by simp[World.shape?,hb]) (Lib.frozen_of_heap hb 0)).mono ?_;rintro e w' ⟨rfl,rfl⟩;refine⟨rfl,⟨v,hB,?_,?_,hr,hne,hn⟩,⟨rfl,rfl,rfl,by simp[World.setCell],λk _ hk _=>wQ _ _ _ _ hk,.inl rfl⟩⟩
  ·simp[World.setCell,Array.getElem?_modify,hb]
  ·exact gp ho (λg hg=>wQ _ _ _ _ (λe=>by rw[hr] at hg;exact hne (by rw[hg];simpa using e)))
 ·refine (VB b w (by rw[Lib.cell_of_heap hb];rfl)).mono ?_;rintro e w' ⟨rfl,rfl⟩;exact⟨rfl,⟨v,hB,hb,ho,hr,hne,hn⟩,BS.refl _ _ _⟩
theorem RA{T:TypeId}(hT:BldT T){B b:Nat}{r:Option Nat}{w1 w2:World}{v v':Value}{l':List UInt8}(hB:B<=b)(ac:w2.heap[b]?=some (.cells #[.pointer (some ⟨b,0,none⟩),v] T (0,0)))
 (ho:w2.ownsRow B 5 1 v' l'.length (Lib.byteCells l')) (ap:w1.heap.size<=w2.heap.size) (rF:∀ k,k<w1.heap.size->k≠b->r≠some k->w2.heap[k]?=w1.heap[k]?) (nY:w2.os=w1.os/\w2.tape=w1.tape/\w2.output=w1.output)
 (hat:v'.ownBlock=r\/∃ k,w1.heap.size<=k/\v'.ownBlock=some k) (hn:l' = []->v' = .slice none 0 0) :
 Bld T B b v'.ownBlock l' (w2.setCell ⟨b,1,none⟩ v')/\BS b r w1 v'.ownBlock (w2.setCell ⟨b,1,none⟩ v'):=by
 have hne:=ahZ ho ac hT.ne;refine⟨⟨_,v',.inr rfl,hB,?_,?_,rfl,hne,hn⟩,⟨nY.1,nY.2.1,nY.2.2,by simpa [World.setCell] using ap,λk hk h1 h2=>(wQ _ _ _ _ h1).trans (rF k hk h1 h2),hat⟩⟩
 ·simp[World.setCell,Array.getElem?_modify,ac]
 ·exact gp ho (λg hg=>wQ _ _ _ _ (λe=>hne (by rw[hg];simpa using e)))
def zq(T:TypeId)(B b:Nat)(r:Option Nat)(l:List UInt8)(v:Value)(w:World)(e:Ending)(w':World):Prop:=e = .returned v/\∃ r',Bld T B b r' l w'/\BS b r w r' w'
theorem aLX{T:TypeId}(hT:BldT T)(B b:Nat)(r:Option Nat)(l:List UInt8)(c:UInt8)(w:World)(h:Bld T B b r l w)(hl:l.length<=100000000)(gP:B<=w.heap.size) :
 Calls prog 130 #[.pointer (some ⟨b,0,none⟩),.int .u8 c.toNat] w (zq T B b r (l ++ [c]) .nilIface w):=by
 obtain⟨i0,hi,dZ,bh,aM⟩:=info_parts Tryz.infoByte;have H:=jq h;clear h;go_enter func130,ntmps130;go_wp2_with fail;refine (MJ hT B b r l _ H.out).mono ?_;rintro e w1 ⟨rfl,⟨v,hB,rp,hown,hr,hne,_⟩,bl⟩;have c1:w1.cell? ⟨b,1,none⟩=some v:=by rw[Lib.cell_of_heap rp];rfl
 have aa:b<w1.heap.size:=(eQ.1 rp).1;have HO:=jq hown;have uk:=jq rp;have HR:=jq hr;have eZ:=jq bl;have qf:=bl.size;clear hown rp hr bl;go_wp2_with (at_builtin;refine wpList_append_own_at _ rfl _ _ 196 rfl B 5 i0 (.int .u8 0) 1 1 underlying196 hi dZ bh aM rfl (by decide) _ _ _ rfl (HO.out.alloc _) ⟨w1.heap.size,0,none⟩ 1 1 [.int .u8 c.toNat] rfl rfl (cell_one_new _ _ _) (by simp[Value.oneCell']) (by unfold maxLen;omega) (by omega) (by simp;omega) ?_;intro v' w2 pg By Em hat;have H2:=jq (And.intro pg (And.intro By hat));clear pg By hat Em;have ac:w2.heap[b]?=some (.cells #[.pointer (some ⟨b,0,none⟩),v] T (0,0)):=(by rw[H2.out.2.1.block b (by simp;omega) (λe=>hne (HR.out.symm.trans e.symm)),Lib.alloc_old w1 _ b aa];exact uk.out);have d1:w2.cell? ⟨b,1,none⟩=some v:=(by rw[Lib.cell_of_heap ac];rfl);have f1:w2.frozen? ⟨b,1,none⟩=false:=Lib.frozen_of_heap ac 1;have ak:=jq ac;clear ac;obtain⟨ao,cap,rfl⟩:=yS H2.out.1);go_ret;obtain⟨o2,g2,a2⟩:=H2.out;have tp:=RA hT (r:=r) (w1:=w1) (l':=l ++ [c]) hB ak.out (by simpa [Lib.byteCells] using o2) (by have:=g2.size;simp at this;omega) (λk hk h1 h2=>by rw[g2.block k (by simp;omega) (λe=>h2 (HR.out.symm.trans e.symm)),Lib.alloc_old w1 _ k hk]) ⟨g2.os,g2.tape,g2.output⟩ (by
  rcases a2 with a2 | a2
  ·exact .inl (a2.trans HR.out)
  ·exact .inr ⟨_,by simp,a2⟩) (by simp)
 exact⟨rfl,_,tp.1,eZ.out.trans tp.2⟩
theorem Kp{T:TypeId}(hT:BldT T)(B b:Nat)(r:Option Nat)(l:List UInt8)(s:ByteArray)(w:World)(h:Bld T B b r l w)(hl:l.length<=100000000)(hs:s.size<=100000000)(gP:B<=w.heap.size) :
 Calls prog 129 #[.pointer (some ⟨b,0,none⟩),.string s] w (zq T B b r (l++s.data.toList) (.tuple #[.int .i64 s.size,.nilIface]) w):=by
 obtain⟨i0,hi,dZ,bh,aM⟩:=info_parts Tryz.infoByte;have H:=jq h;clear h;go_enter func129,ntmps129;go_wp2_with fail;refine (MJ hT B b r l _ H.out).mono ?_;rintro e w1 ⟨rfl,⟨v,hB,rp,hown,hr,hne,Em⟩,bl⟩;have c1:w1.cell? ⟨b,1,none⟩=some v:=by rw[Lib.cell_of_heap rp];rfl
 have aa:b<w1.heap.size:=(eQ.1 rp).1;have HO:=jq hown;have uk:=jq rp;have HR:=jq hr;have eZ:=jq bl;have HN:=jq Em;have qf:=bl.size;clear hown rp hr bl Em;go_wp2_with (at_builtin;refine aKQ _ rfl _ _ 196 9 rfl B 5 i0 underlying196 underlying9 hi dZ bh aM _ _ _ rfl HO.out s rfl (by unfold maxLen;omega) (by omega) (by omega) ?_;intro v' w2 pg By hat tH;have H2:=jq (And.intro pg (And.intro By hat));have ga:=jq tH;clear pg By hat tH;have ac:w2.heap[b]?=some (.cells #[.pointer (some ⟨b,0,none⟩),v] T (0,0)):=(by rw[H2.out.2.1.block b aa (λe=>hne (HR.out.symm.trans e.symm))];exact uk.out);have d1:w2.cell? ⟨b,1,none⟩=some v:=(by rw[Lib.cell_of_heap ac];rfl);have f1:w2.frozen? ⟨b,1,none⟩=false:=Lib.frozen_of_heap ac 1;have ak:=jq ac;clear ac;obtain⟨ao,cap,rfl⟩:=yS H2.out.1);go_ret2;obtain⟨o2,g2,a2⟩:=H2.out;have tp:=RA hT (r:=r) (w1:=w1) (l':=l++s.data.toList) hB ak.out (by simpa [Lib.byteCells,Lib.strCells] using o2) g2.size (λk hk h1 h2=>g2.block k hk (λe=>h2 (HR.out.symm.trans e.symm))) ⟨g2.os,g2.tape,g2.output⟩ (by
  rcases a2 with a2 | a2
  ·exact .inl (a2.trans HR.out)
  ·exact .inr ⟨_,bQ _,a2⟩) (by
  intro h0;have h1:=List.append_eq_nil_iff.1 h0;exact ga.out.2 ⟨HN.out h1.1,by rw[<-aZ,h1.2];rfl⟩)
 exact⟨rfl,_,tp.1,eZ.out.trans tp.2⟩
def ue(T:TypeId)(B b:Nat)(l:List UInt8)(w:World):Prop:=
 ∃ p v,B<=b/\w.heap[b]?=some (.cells #[p,v] T (0,0))/\((v = .slice none 0 0/\l = [])\/∃ g cap cur fr,v = .slice (some ⟨g,0,none⟩) l.length cap/\l≠[]/\B<=g/\g≠b/\w.heap[g]?=some (.cells cur 5 fr)/\l.length<=cur.size/\l.length<=cap/\l.length<=9223372036854775807/\cur.toList.take l.length=Lib.byteCells l)
theorem Bld.read{T:TypeId}{B b:Nat}{r:Option Nat}{l:List UInt8}{w:World}(h:Bld T B b r l w):ue T B b l w:=by
 obtain⟨p,v,_,hB,hb,ho,hr,hne,hn⟩:=h;refine⟨p,v,hB,hb,?_⟩;by_cases h0:l = []
 ·exact .inl ⟨hn h0,h0⟩
 ·right;rcases ho.2 with ⟨_,h1⟩ | ⟨g,cap,cur,rfl,NL,hg,mb,fE,hcs,ht⟩
  ·exact absurd (rQ h1) h0
  ·refine⟨g,cap,cur,_,rfl,h0,NL,λe=>hne ?_,hg,by omega,mb,by unfold maxLen at fE;omega,by simpa using ht⟩;rw[<-hr,e];rfl
theorem ue.keep{T:TypeId}{B b:Nat}{l:List UInt8}{w w':World}(h:ue T B b l w)(hb:Below w.heap.size w w'):ue T B b l w':=by
 obtain⟨p,v,hB,hh,hv⟩:=h;refine⟨p,v,hB,(hb.block b (eQ.1 hh).1).trans hh,?_⟩;rcases hv with hv | ⟨g,cap,cur,fr,h1,h2,h3,h4,h5,h6⟩
 ·exact .inl hv
 ·exact .inr ⟨g,cap,cur,fr,h1,h2,h3,h4,(hb.block g (eQ.1 h5).1).trans h5,h6⟩
theorem Wm{w:World}{g n k:Nat}(h:k≠g):(w.freeze ⟨g,0,none⟩ n).heap[k]?=w.heap[k]?:=by
 unfold World.freeze;split
 ·rfl
 ·simp only[Array.getElem?_modify];rw[Qc (Ne.symm h)]
theorem Wl{w:World}{g n:Nat}{cur:Array Value}{t:TypeId}{fr:Nat×Nat}(h:w.heap[g]?=some (.cells cur t fr)):∃ fr',(w.freeze ⟨g,0,none⟩ n).heap[g]?=some (.cells cur t fr'):=by
 unfold World.freeze;split
 ·exact⟨fr,h⟩
 ·simp only[Array.getElem?_modify,if_true,h];obtain⟨lo,hi⟩:=fr;exact⟨_,rfl⟩
theorem Rm{T:TypeId}(B b:Nat)(l:List UInt8)(w:World)(h:ue T B b l w) :
 Calls prog 134 #[.pointer (some ⟨b,0,none⟩)] w λe w'=>e = .returned (aD l)/\ue T B b l w'/\Below B w w':=by
 obtain⟨p,v,hB,hb,hv⟩:=h;rcases hv with ⟨rfl,rfl⟩ | ⟨g,cap,cur,fr,rfl,h0,Ia,dL,hg,Oq,Xo,jY,ht⟩
 ·have c1:w.drew.cell? ⟨b,1,none⟩=some (.slice none 0 0):=by
   have:w.drew.heap[b]?=some (.cells #[p,.slice none 0 0] T (0,0)):=hb
   rw[Lib.cell_of_heap this];rfl
  have WP:∀ W q,(Builtin.unsafeString_ #[271,3] 9 #[.pointer q,.int .i64 0]).run prog W = .ok (.string .empty) W:=λW q=>Lib.run_unsafeString_none W _ _ _ q;have fu:(Builtin.unsafeSliceData_ #[196] 271 #[.slice none 0 0]).run prog w.drew = .ok (.pointer none) w.drew:=rfl;have HB:=jq hb;clear hb;go_enter func134,ntmps134;go_wp2;go_region
  all_goals (go_wp2;go_ret;exact⟨rfl,⟨p,_,hB,HB.out,.inl ⟨rfl,rfl⟩⟩,(vQ _ _).drew⟩)
 ·have c1:w.drew.cell? ⟨b,1,none⟩=some (.slice (some ⟨g,0,none⟩) l.length cap):=by
   have:w.drew.heap[b]?=some (.cells #[p,.slice (some ⟨g,0,none⟩) l.length cap] T (0,0)):=hb
   rw[Lib.cell_of_heap this];rfl
  have tB:l.length≠0:=by simpa using h0
  have fu:(Builtin.unsafeSliceData_ #[196] 271 #[.slice (some ⟨g,0,none⟩) l.length cap]).run prog w.drew = .ok (.pointer (some ⟨g,0,none⟩)) w.drew:=
   Lib.run_unsafeSliceData_row _ _ _ _ _ _ (by omega)
  have hg':w.drew.heap[g]?=some (.cells cur 5 fr):=hg;have WP:(Builtin.unsafeString_ #[271,3] 9 #[.pointer (some ⟨g,0,none⟩),.int .i64 l.length]).run prog w.drew = .ok (.string ⟨l.toArray⟩) (w.drew.freeze ⟨g,0,none⟩ l.length):=by
   refine Lib.run_unsafeString_row w.drew 271 3 9 5 underlying271 Vc g cur.size (by simp[World.shape?,hg']) l h0 Oq jY ?_;intro j x hx;have nR:(⟨g,0,none⟩:Addr).add j=⟨g,j,none⟩:=by unfold Addr.add;split <;> simp_all
   rw[nR,Lib.cell_of_heap hg'];have h1:(Lib.byteCells l)[j]?=some (.int .u8 x.toNat):=by simp[Lib.byteCells,hx]
   rw[<-ht,List.getElem?_take] at h1;split at h1
   ·simpa using h1
   ·cases h1
  have HF:Hid (ue T B b l (w.drew.freeze ⟨g,0,none⟩ l.length)/\Below B w (w.drew.freeze ⟨g,0,none⟩ l.length)):=by
   obtain⟨fr',vI⟩:=Wl (n:=l.length) hg';exact jq ⟨⟨p,_,hB,(Wm (Ne.symm dL)).trans hb,.inr ⟨g,cap,cur,fr',rfl,h0,Ia,dL,vI,Oq,Xo,jY,ht⟩⟩,Lib.below_freeze (Below.drew (vQ B w)) (p:=⟨g,0,none⟩) Ia _⟩
  clear hb hg hg' ht;go_enter func134,ntmps134;go_wp2;go_region
  all_goals (go_wp2;go_ret;exact⟨rfl,HF.out⟩)
def Hg(b:Nat)(r:Option Nat)(w:World)(v:Value)(ws:List (List UInt8)):Prop:=
 ∃ A c,v = .slice A ws.length c/\ws.length<=c/\ws.length<=1000000/\∀ i x,ws[i]?=some x->∃ g o,A=some ⟨g,o,none⟩/\g<w.heap.size/\g≠b/\r≠some g/\w.cell? ⟨g,o+i,none⟩=some (aD x)
theorem Hg.step{b:Nat}{r r':Option Nat}{w w':World}{v:Value}{ws:List (List UInt8)}(h:Hg b r w v ws)(hs:BS b r w r' w'):Hg b r' w' v ws:=by
 obtain⟨A,c,h1,h2,h3,h4⟩:=h;refine⟨A,c,h1,h2,h3,λi x hx=>?_⟩;obtain⟨g,o,h5,h6,h7,h8,h9⟩:=h4 i x hx;exact⟨g,o,h5,lQ h6 hs.size,h7,hs.free h6 h8,(hs.cell h6 h7 h8 _).trans h9⟩
theorem Ko{T:TypeId}(hT:BldT T)(B b:Nat)(r:Option Nat)(l:List UInt8)(c:UInt8)(k:Int)(hk:(c.toNat:Int)=k)(w:World)(h:Bld T B b r l w)(hl:l.length<=100000000)(gP:B<=w.heap.size) :
 Calls prog 130 #[.pointer (some ⟨b,0,none⟩),.int .u8 k] w (zq T B b r (l ++ [c]) .nilIface w):=by
 subst hk;exact aLX hT B b r l c w h hl gP
end
namespace Np
theorem VP:∀ (k n:Nat),n<10 ^ (k+1)->(mH n).length<=k+1:=by
 intro k
 induction k with
 | zero=>intro n h;rw[mH,Qb (by simpa using h)];simp
 | succ k ih=>
  intro n h;rw[mH];split
  ·simp
  ·have:=ih (n / 10) (by rw[Nat.pow_succ] at h;omega)
   simp only[List.length_append,List.length_singleton];omega
end Np
section
open Go.RowKit
def fU(w:World):Prop:=Lib.TabIs prog w "internal/strconv.uint64pow10" .u64 Lib.pow10Tab
theorem Hy:prog.globalNamed "internal/strconv.uint64pow10" = some 1:=by kernel_rfl
theorem fU.lt{w:World}(h:fU w):1<w.heap.size:=by
 unfold fU Lib.TabIs World.var? at h;rw[Hy] at h;simp only[Option.bind_some] at h
 cases hh:w.heap[1]? with
 | none=>rw[hh] at h;cases h
 | some o=>exact (eQ.1 hh).1
theorem fU.keepAt{w w':World}{n:Nat}(h:fU w)(hb:Below n w w')(hn:1<n):fU w':=by
 unfold fU Lib.TabIs World.var? at h |-;rw[Hy] at h |-;simp only[Option.bind_some] at h |-;rw[hb.block _ hn];exact h
theorem fU.keep{w w':World}(h:fU w)(hb:Below w.heap.size w w'):fU w':=h.keepAt hb h.lt
theorem MT:∀ n:Nat,Lib.decDigits n=Np.mH n:=by
 intro n
 induction n using Nat.strongRecOn with
 | ind n ih=>
  rw[Lib.decDigits,Np.mH];split
  ·rfl
  ·rw[ih (n / 10) (by omega)]
theorem PB(n:Int)(h0:0<=n)(h1:n<=9223372036854775807)(w:World)(hP:fU w) :
 Calls prog 132 #[.int .i64 n] w λe w'=>e = .returned (aD (Np.aX n))/\Below w.heap.size w w':=
 (Tryz.strconv_Itoa n (by omega) (by omega) w hP).mono λe w' ⟨he,k,os,hw⟩=>by
   refine⟨?_,?_⟩
   ·rw[he,Lib.itoa,Qc (by omega),MT];rfl
   ·rw[hw];exact Lib.below_grow _ w (bQ _) k os
theorem Nb(n:Int)(h0:0<=n)(h1:n<18446744073709551616)(w:World)(hP:fU w) :
 Calls prog 133 #[.int .u64 n,.int .i64 10] w λe w'=>e = .returned (aD (Np.aX n))/\Below w.heap.size w w':=by
 obtain⟨u,rfl⟩:∃ u:Nat,n=u:=⟨n.toNat,by omega⟩;refine (Wi u (by omega) w hP).mono λe w' ⟨he,k,os,hw⟩=>⟨?_,?_⟩
 ·rw[he,MT];rfl
 ·rw[hw];exact Lib.below_grow _ w (bQ _) k os
theorem vg{n:Int}(h1:n<18446744073709551616):(Np.aX n).length<=20:=Np.VP 19 n.toNat (by omega)
theorem VR(a b:List (List UInt8)):Np.bZ (a++b)=Np.bZ a++Np.bZ b:=by simp[Np.bZ]
theorem JP:∀ (ns:List Int) (s:List UInt8),s++(ns.flatMap λn=>47::Np.aX n) ++ [47]=Np.bZ (s::ns.map Np.aX)
 | [],s=>by simp[Np.bZ]
 | n::ns,s=>by
   rw[Np.x7,List.map_cons,<-JP ns (Np.aX n)];simp
theorem QA:∀ (ns:List Int) (s:List UInt8),(∀ n∈ns,n<18446744073709551616)->(s++(ns.flatMap λn=>47::Np.aX n) ++ [47]).length<=s.length+1+21 * ns.length
 | [],s,_=>by simp
 | n::ns,s,h=>by
   have:=QA ns s (λm hm=>h m (mQ _ hm))
   have h2:=vg (h n (by simp));simp at this |-;omega
theorem xY:BldT 198:=⟨by kernel_rfl,by decide⟩
def kB(b:Nat)(r:Option Nat)(w:World)(v:Value)(ns:List Int):Prop:=
 ∃ A c,v = .slice A ns.length c/\ns.length<=c/\∀ i x,ns[i]?=some x->∃ g o,A=some ⟨g,o,none⟩/\g<w.heap.size/\g≠b/\r≠some g/\w.cell? ⟨g,o+i,none⟩=some (.int .i64 x)
theorem kB.step{b:Nat}{r r':Option Nat}{w w':World}{v:Value}{ns:List Int}(h:kB b r w v ns)(hs:BS b r w r' w'):kB b r' w' v ns:=by
 obtain⟨A,c,h1,h2,h4⟩:=h;refine⟨A,c,h1,h2,λi x hx=>?_⟩;obtain⟨g,o,h5,h6,h7,h8,h9⟩:=h4 i x hx;exact⟨g,o,h5,lQ h6 hs.size,h7,hs.free h6 h8,(hs.cell h6 h7 h8 _).trans h9⟩
theorem kB.nil(b:Nat)(r:Option Nat)(w:World):kB b r w (.slice none 0 0) []:=⟨none,0,rfl,bQ _,λi x h=>by simp at h⟩
def qn(ns:List Int):List UInt8:=ns.flatMap λn=>47::Np.aX n
theorem agQ{ns:List Int}{k:Nat}{x:Int}(hx:ns[k]?=some x):qn (ns.take (k+1))=qn (ns.take k) ++ [47]++Np.aX x:=by
 obtain⟨hl,he⟩:=cQ.1 hx;rw[fQ hl,he];simp[qn]
theorem P7:∀ (ns:List Int),(∀ n∈ns,n<18446744073709551616)->(qn ns).length<=21 * ns.length
 | [],_=>by simp[qn]
 | n::ns,h=>by
   have:=P7 ns (λm hm=>h m (mQ _ hm))
   have h2:=vg (h n (by simp));simp[qn] at this |-;omega
theorem EW(B b:Nat)(r:Option Nat)(l:List UInt8)(s:ByteArray)(v:Value)(ns:List Int)(w:World)(h:Bld 198 B b r l w)(hv:kB b r w v ns)(hn:∀ n∈ns,0<=n/\n<=9223372036854775807)(hl:l.length<=10000000)(hs:s.size<=100000)(tH:ns.length<=100)(gP:B<=w.heap.size)(hP:fU w)(WN:1<B) :
 Calls prog 217 #[.string s,v,.pointer (some ⟨b,0,none⟩)] w (zq 198 B b r (l++Np.bZ (s.data.toList::ns.map Np.aX)) (.tuple #[]) w):=by
 have H:=jq h;have HV:=jq hv;have HP:=jq hP;have HN:=jq hn;have jg:=jq h.row.1;have li:=jq h.row.2.2;obtain⟨A,c,rfl,hc,-⟩:=hv;obtain⟨m,hm⟩:∃ m,ns.length=m:=⟨_,rfl⟩;rw[hm] at tH;have HM:=jq hm;have GE:Hid (∀ k,(qn (ns.take k)).length<=2100):=jq (λk=>by
  have h1:=P7 (ns.take k) (λn hn'=>by have:=HN.out n (List.mem_of_mem_take hn');omega);rw[List.length_take] at h1;have h2:=HM.out;omega)
 have da:s.data.toList.length=s.size:=aZ s;have ji:=jq da;clear h hn hP da;rw[hm] at HV |-;clear hm hc;go_enter func217,ntmps217;go_wp2_with fail;refine (Kp xY B b r _ s _ H.out (by omega) (by omega) gP).mono ?_;rintro e w1 ⟨rfl,r1,aw,bl⟩;have ay:=jq aw;have eZ:=jq bl;have qf:=bl.size;clear aw bl;go_wp2_with fail;go_loopw [11] (λi wr=>∃ (k:Nat) (r':Option Nat),k<=m/\i = .int .i64 k/\Hid (Bld 198 B b r' (l++s.data.toList++qn (ns.take k)) wr)/\Hid (BS b r w r' wr)/\Hid (kB b r' wr (.slice A m c) ns)) (λi _=>m - (intOf i).toNat)
 case atStart=>exact⟨0,r1,jQ _,rfl,jq (by simpa [qn] using ay.out),eZ,jq (HV.out.step eZ.out)⟩
 case round=>
  obtain⟨k,r',hk,rfl,HB,HS,HX⟩:=hrel;have ap:=HS.out.size;have eX:Hid (Below B w wr):=jq (HS.out.below jg.out (λk hk=>(li.out k hk).1) gP);by_cases aa:k<m
  ·obtain⟨x,ab⟩:∃ x,ns[k]?=some x:=⟨_,aQ (by rw[HM.out];exact aa)⟩;obtain⟨A',c',hA,_,bV⟩:=HX.out;simp only[Value.slice.injEq] at hA;obtain⟨rfl,-,rfl⟩:=hA;obtain⟨g,o,rfl,hg,dL,Eg,hcell⟩:=bV k _ ab;have HJ:=jq (agQ ab);have gT:=HN.out x (gQ ab);have G9:=jq gT;have Yo:=GE.out k;have aZJ:=GE.out (k+1);clear bV ab gT;go_wp2_with fail;refine (Ko xY B b r' _ 47 47 rfl _ HB.out (by simp;omega) (by omega)).mono ?_;rintro e w2 ⟨rfl,r2,ac,gG⟩;have ak:=jq ac;have jh:=jq gG;have jA:=gG.size;clear ac gG;go_wp2_with fail;refine (PB x G9.out.1 G9.out.2 w2 (HP.out.keepAt (eX.out.trans (jh.out.below jg.out (λk hk=>(HB.out.row.2.2 k hk).1) (by omega))) WN)).mono ?_;rintro e w3 ⟨rfl,am⟩;have az:=jq (ak.out.keep am);have zS:=jq (jh.out.after am);have kJ:=am.size;clear am;go_wp2_with fail;refine (Kp xY B b r2 _ ⟨(Np.aX x).toArray⟩ _ az.out (by simp;omega) (by rw[<-aZ];have:=vg (n:=x) (by have:=G9.out;omega);simp;omega) (by omega)).mono ?_;rintro e w4 ⟨rfl,r4,ar,Jd⟩;have br:=jq ar;have LH:=jq (zS.out.trans Jd);clear ar Jd;go_wp2_with fail;go_roundw
   case rel=>exact⟨k+1,r4,by omega,by go_num,jq (by have:=br.out;rw[HJ.out];simpa using this),jq (HS.out.trans LH.out),jq (HX.out.step LH.out)⟩
   case measure=>simp[intOf] <;> omega
  ·have Yo:=GE.out k;have eK:Hid (ns.take k=ns):=jq (kQ (by rw[HM.out];omega));go_wp2_with fail;refine (Ko xY B b r' _ 47 47 rfl _ HB.out (by simp;omega) (by omega)).mono ?_;rintro e w2 ⟨rfl,r2,ac,gG⟩;have ak:=jq ac;have jh:=jq (HS.out.trans gG);clear ac gG;go_wp2_with fail;go_end0;refine⟨rfl,r2,?_,jh.out⟩
   have:=ak.out
   rw[eK.out] at this;rw[<-JP];simpa [qn] using this
end
namespace Np
def eG(x:Signed)(drift til:Int):Int:=
 match x.sigs with
 | []=>til - 1+max x.set.life 1+2 * drift
 | g::_=>min (til - 1+max x.set.life 1+2 * drift) (g.til+drift+1)
def jX(x:Signed)(drift:Int)(s:Span):Span:=⟨s.frm,max s.til (eG x drift s.til)⟩
def ep(x:Held)(drift:Int):List Span:=cP (x.fresh.map (jX x.signed drift))
def pubAll(h:Hist):List Held:=(apexes h.copies).flatMap λz=>pub h.copies z
def ci(h:Hist):List Held:=(pubAll h).map λx=>{ x with spans:=ep x h.drift }
theorem Ni{x:Signed}{d:Int}{l:List Span}(h:∀ s∈l,s.frm<s.til):∀ s∈l.map (jX x d),s.frm<s.til:=λs hs=>by
 obtain⟨r,hr,rfl⟩:=List.mem_map.1 hs
 have:=h r hr
 show r.frm<max r.til (eG x d r.til);omega
theorem zh{x:Held}{d:Int}(h:∀ s∈x.fresh,s.frm<s.til):ApartS (ep x d):=(wJ (Ni h)).1
theorem wF{x:Held}{d t:Int}(h:∀ s∈x.fresh,s.frm<s.til):inS (ep x d) t↔∃ s∈x.fresh,s.frm<=t/\(t<s.til\/t<eG x.signed d s.til):=by
 unfold ep;rw[(wJ (Ni h)).2];unfold inS;constructor
 ·rintro⟨s,hs,h1,h2⟩;obtain⟨r,hr,rfl⟩:=List.mem_map.1 hs;refine⟨r,hr,h1,?_⟩;have h3:t<max r.til (eG x.signed d r.til):=h2;omega
 ·rintro⟨r,hr,h1,h2⟩;refine⟨_,List.mem_map.2 ⟨r,hr,rfl⟩,h1,?_⟩;show t<max r.til (eG x.signed d r.til);omega
theorem Zz{x:Held}{d t:Int}(h:∀ s∈x.fresh,s.frm<s.til)(ht:inS x.fresh t):inS (ep x d) t:=by
 obtain⟨s,hs,h1,h2⟩:=ht;exact (wF h).2 ⟨s,hs,h1,.inl h2⟩
theorem aEY{x:Signed}{d e til:Int}(h:d<=e):eG x d til<=eG x e til:=by
 unfold eG
 cases x.sigs with
 | nil=>dsimp only;omega
 | cons g r=>dsimp only;omega
theorem ZA{x:Held}{d e t:Int}(h:∀ s∈x.fresh,s.frm<s.til)(hd:d<=e)(ht:inS (ep x d) t):inS (ep x e) t:=by
 obtain⟨s,hs,h1,h2⟩:=(wF h).1 ht;refine (wF h).2 ⟨s,hs,h1,?_⟩
 have:=aEY (x:=x.signed) (til:=s.til) hd
 omega
theorem P2{l m:List Span}(hl:ApartS l)(hm:∀ s∈m,s.frm<s.til)(h:∀ t,inS m t->inS l t):cP (l++m)=l:=by
 refine (Cp (λs hs=>?_) hl λt=>?_).symm
 ·rcases List.mem_append.1 hs with hs | hs
  ·exact hl.full s hs
  ·exact hm s hs
 ·rw[Cl];exact⟨λk=>.inl k,λk=>k.elim id (h t)⟩
def Do(h:Hist)(t:Int)(s:Signed):Prop:=∃ x∈pubAll h,x.signed=s/\inS (ep x h.drift) t
theorem Co{h:Hist}{x:Held} : x∈pubAll h↔∃ z∈apexes h.copies,x∈pub h.copies z:=by
 unfold pubAll;rw[List.mem_flatMap]
theorem Qo{h:Hist}(hl:mu h.copies){t:Int}{s:Signed} : Do h t s↔∃ z,∃ x∈pub h.copies z,x.signed=s/\∃ r∈x.fresh,r.frm<=t/\(t<r.til\/t<eG s h.drift r.til):=by
 constructor
 ·rintro⟨x,hx,rfl,ht⟩;obtain⟨z,_,hz⟩:=Co.1 hx;obtain⟨_,_,m3,_⟩:=rY hl hz;exact⟨z,x,hz,rfl,(wF m3.full).1 ht⟩
 ·rintro⟨z,x,hx,rfl,r,hr,ht⟩;obtain⟨_,_,m3,⟨c,hc,h1,_⟩,_⟩:=rY hl hx;refine⟨x,Co.2 ⟨z,?_,hx⟩,rfl,(wF m3.full).2 ⟨r,hr,ht⟩⟩;rw[yN];exact⟨c,hc,h1⟩
theorem aiJ{h:Hist}(hl:mu h.copies){t:Int}{c:Copy}(hc:c∈h.copies)(h1:c.frm<=t)(h2:t<c.til){s:Signed}(hs:s∈c.zone.sets):Do h t s:=by
 obtain⟨x,hx,rfl⟩:=Qv (zone:=c.zone.apex) ⟨c,hc,rfl,hs⟩;obtain⟨_,_,_,_,m5⟩:=rY hl hx;obtain⟨r,hr,k1,k2⟩:=(m5 t).2 ⟨c,hc,rfl,hs,h1,h2⟩;exact (Qo hl).2 ⟨_,x,hx,rfl,r,hr,k1,.inl k2⟩
theorem aiK{h:Hist}(hl:mu h.copies){u t a b:Int}(hut:u<=t)(ha:a<=h.drift)(hb:b<=h.drift){c:Copy}(hc:c∈h.copies)(h1:c.frm<=u)(h2:u<c.til){s:Signed}(hs:s∈c.zone.sets)(rG:t - b<u+a+max 1 s.set.life)(YS:∀ g r,s.sigs=g::r->t - b<=g.til):Do h t s:=by
 obtain⟨x,hx,rfl⟩:=Qv (zone:=c.zone.apex) ⟨c,hc,rfl,hs⟩;obtain⟨_,_,_,_,m5⟩:=rY hl hx;obtain⟨r,hr,k1,k2⟩:=(m5 u).2 ⟨c,hc,rfl,hs,h1,h2⟩;refine (Qo hl).2 ⟨_,x,hx,rfl,r,hr,by omega,?_⟩;by_cases ht:t<r.til
 ·exact .inl ht
 ·refine .inr ?_;unfold eG
  cases e:x.signed.sigs with
  | nil=>dsimp only;omega
  | cons g l=>
   have:=YS g l e
   dsimp only;omega
def eD(l:List Held)(n:List UInt8)(ty t:Int):List Signed:=cM ((l.filter λx=>(x.signed.set.name == n)&&(decide (x.signed.set.type=ty)&&l1 x.spans t)).map (·.signed))
where l1 (sp:List Span) (t:Int):Bool:=sp.any λs=>decide (s.frm<=t)&&decide (t<s.til)
theorem JD{sp:List Span}{t:Int} : eD.l1 sp t=true↔inS sp t:=by
 unfold eD.l1 inS;rw[List.any_eq_true];simp
theorem PV{h:Hist}{n:List UInt8}{ty t:Int}{s:Signed} : s∈eD (ci h) n ty t↔Do h t s/\s.set.name=n/\s.set.type=ty:=by
 unfold eD ci;rw[wI,List.mem_map];constructor
 ·rintro⟨x,hx,rfl⟩;obtain⟨h1,h2⟩:=List.mem_filter.1 hx;obtain⟨y,hy,rfl⟩:=List.mem_map.1 h1;rw[Bool.and_eq_true,Bool.and_eq_true,beq_iff_eq,Qa,JD] at h2;exact⟨⟨y,hy,rfl,h2.2.2⟩,h2.1,h2.2.1⟩
 ·rintro⟨⟨y,hy,rfl,ht⟩,h1,h2⟩;refine⟨{ y with spans:=ep y h.drift },List.mem_filter.2 ⟨List.mem_map.2 ⟨y,hy,rfl⟩,?_⟩,rfl⟩;rw[Bool.and_eq_true,Bool.and_eq_true,beq_iff_eq,Qa,JD];exact⟨h1,h2,ht⟩
theorem Qk(c:Copy)(z:List UInt8):(de [c] z).length=if c.zone.apex=z then c.zone.sets.length else 0:=by
 unfold de vd;rw[List.filter_cons,List.filter_nil];by_cases h:c.zone.apex=z
 ·have hb:(c.zone.apex == z)=true:=by rw[h];simp
  rw[Qb h,hb,Qb rfl];simp[oe]
 ·have hb:(c.zone.apex == z)=false:=by simpa using h
  rw[Qc h,hb];simp
theorem Ql(c:Copy):∀ zs:List (List UInt8),zs.Nodup->(zs.map λz=>(de [c] z).length).sum<=c.zone.sets.length
 | [],_=>by simp
 | z::zs,h=>by
   obtain⟨h1,h2⟩:=List.nodup_cons.1 h;rw[List.map_cons,List.sum_cons,Qk];by_cases e:c.zone.apex=z
   ·rw[Qb e];have h0:(zs.map λz=>(de [c] z).length).sum=0:=by
     rw[List.sum_eq_zero_iff_forall_eq_nat];intro n hn;obtain⟨y,hy,rfl⟩:=List.mem_map.1 hn;rw[Qk,Qc (λe2=>h1 (by rw[<-e,e2];exact hy))]
    omega
   ·rw[Qc e,Nat.zero_add];exact Ql c zs h2
theorem Ro{α:Type}(f g:α->Nat):∀ l:List α,(l.map λx=>f x+g x).sum=(l.map f).sum+(l.map g).sum
 | []=>rfl
 | x::l=>by
   have:=Ro f g l
   simp only[List.map_cons,List.sum_cons];omega
theorem Qi{n:Nat} : ∀ (l:List Copy),(∀ c∈l,c.zone.sets.length<=n)->∀ zs:List (List UInt8),zs.Nodup->(zs.map λz=>(de l z).length).sum<=l.length * n
 | [],_,zs,_=>by
   have:(zs.map λz=>(de [] z).length).sum=0:=by
    rw[List.sum_eq_zero_iff_forall_eq_nat];intro n hn;obtain⟨y,hy,rfl⟩:=List.mem_map.1 hn;rfl
   omega
 | c::l,h,zs,hz=>by
   have h1:=Qi l (λd hd=>h d (mQ _ hd)) zs hz;have h2:=Ql c zs hz;have h3:=h c (by simp);have e:(zs.map λz=>(de (c::l) z).length)=zs.map λz=>(de [c] z).length+(de l z).length:=by
    refine List.map_congr_left λz _=>?_
    have:=Qj [c] l z
    rw[List.singleton_append] at this;rw[this,List.length_append]
   rw[e,Ro,List.length_cons,Nat.add_mul,Nat.one_mul];omega
theorem alZ(l:List Copy)(z:List UInt8):(pub l z).length<=(de l z).length:=by
 unfold pub;rw[XH]
 have:=ub ((de l z).map (·.2))
 rwa [List.length_map] at this
theorem Rp{α:Type}{f g:α->Nat}(h:∀ x,f x<=g x):∀ l:List α,(l.map f).sum<=(l.map g).sum
 | []=>bQ _
 | x::l=>by
   have:=Rp h l
   have:=h x
   simp only[List.map_cons,List.sum_cons];omega
theorem UO(l:List Copy):(apexes l).Nodup:=by
 unfold apexes;exact (Fe _).nodup_iff.2 (yR _)
def pubTo(h:Hist)(k:Nat):List Held:=((apexes h.copies).take k).flatMap λz=>pub h.copies z
theorem akX{h:Hist}{k:Nat}{z:List UInt8}(hz:(apexes h.copies)[k]?=some z):pubTo h (k+1)=pubTo h k++pub h.copies z:=by
 obtain⟨hl,he⟩:=cQ.1 hz;unfold pubTo;rw[fQ hl,he,List.flatMap_append];simp
theorem Qs{h:Hist}{k:Nat}(hk:(apexes h.copies).length<=k):pubTo h k=pubAll h:=by
 unfold pubTo pubAll;rw[kQ hk]
theorem Qt{h:Hist}{n m:Nat}(hn:∀ c∈h.copies,c.zone.sets.length<=n)(hm:h.copies.length<=m)(k:Nat):(pubTo h k).length<=m * n:=by
 unfold pubTo;rw[List.length_flatMap];refine yQ (Rp (λz=>alZ h.copies z) _) (yQ (Qi h.copies hn _ ((UO _).sublist (List.take_sublist _ _))) (Nat.mul_le_mul_right n hm))
theorem akQ{h:Hist}{n m:Nat}(hn:∀ c∈h.copies,c.zone.sets.length<=n)(hm:h.copies.length<=m):(pubAll h).length<=m * n:=by
 rw[<-Qs (bQ _)];exact Qt hn hm _
def nI(d:Int)(l:List Held)(k:Nat):List Held:=(l.take k).map (λx=>{ x with spans:=ep x d })++l.drop k
theorem UJ(d:Int)(l:List Held)(k:Nat):(nI d l k).length=l.length:=by
 unfold nI;rw[List.length_append,List.length_map,<-List.length_append,List.take_append_drop]
theorem Mh{d:Int}{l:List Held}{k:Nat}{x:Held}(hx:l[k]?=some x):(nI d l k)[k]?=some x:=by
 have hl:=(cQ.1 hx).1;unfold nI;rw[oQ (by simp;omega),List.length_map,List.length_take,Nat.min_eq_left (by omega),Nat.sub_self,List.getElem?_drop,Nat.add_zero];exact hx
theorem UK{d:Int}{l:List Held}{k:Nat}{x:Held}(hx:l[k]?=some x):(nI d l k).set k { x with spans:=ep x d } = nI d l (k+1):=by
 obtain⟨hl,he⟩:=cQ.1 hx;unfold nI;have hn:((l.take k).map λx:Held=>{ x with spans:=ep x d }).length=k:=by simp;omega
 rw[List.set_append_right _ _ (by omega),hn,Nat.sub_self,fQ hl,he,List.map_append,List.append_assoc];congr 1;rw[<-List.getElem_cons_drop hl,he];rfl
theorem UI{h:Hist}{k:Nat}(hk:(pubAll h).length<=k):nI h.drift (pubAll h) k=ci h:=by
 unfold nI ci;rw[kQ hk,List.drop_of_length_le hk,List.append_nil]
end Np
end Go.Proofs.YtfnopgdcaanaiaaGreatDoor
