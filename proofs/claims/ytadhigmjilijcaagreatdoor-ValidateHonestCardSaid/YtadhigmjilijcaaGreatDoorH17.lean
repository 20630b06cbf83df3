/- No condition. -/
import Derived.Lib.LazyBuf
import Derived.Test.YtadhigmjilijcaaGreatDoorH10
set_option linter.all false
set_option maxRecDepth 100000
set_option maxHeartbeats 8000000
namespace Go.Proofs.YtadhigmjilijcaaGreatDoor
open Go.Proofs.Tryz
section
open Go.RowKit
theorem UW{α:Type}{R:aDQ α}{sz n c:Nat}{w:World}{B:Nat}{xs:List α}(h:SlR R sz w B (.slice none n c) xs):n=0/\xs = []:=by
 obtain⟨A',c',hA',_,_,dS⟩:=h;simp only[Value.slice.injEq] at hA';obtain⟨rfl,rfl,rfl⟩:=hA'
 cases xs with
 | nil=>exact⟨rfl,rfl⟩
 | cons x xs=>
  obtain⟨b,o,e,hA,_⟩:=dS 0 x rfl
  cases hA
theorem Tryz.infoCloneDatum:(prog.info? 75).map (λi=>(i.zero,i.size,i.bytes))=some (some (.agg #[.string ⟨#[]⟩,.int .i64 0,.int .i64 0]),3,32):=by kernel_rfl
theorem P4(v:Value)(xs:List Np.Datum)(hl:xs.length<=1000000)(w:World)(h:SlR cm 3 w w.heap.size v xs) :
 Calls prog 98 #[v] w λe w'=>∃ v',e = .returned v'/\bS cm 3 75 w.heap.size w.heap.size w' v' xs/\Below w.heap.size w w':=by
 have HD:=jq h;obtain⟨A,c,rfl,aR,cP⟩:=ba h;clear h;have heq:=run_eql_slice_nil (P:=prog) w 23 75 A xs.length c underlying23;have cu:Hid (Below w.heap.size w (w.alloc (.cells #[] 75))):=jq (blAl);obtain⟨i0,hi,eu,bG,bL⟩:=info_parts Tryz.infoCloneDatum
 cases A with
 | none=>
  obtain⟨hn,rfl⟩:=UW HD.out;rw[List.length_nil] at heq |-;simp only[Option.isNone_none] at heq;go_enter func98,ntmps98;go_wp2_with fail;go_ret;exact⟨_,rfl,bS.nil _,vQ _ _⟩
 | some ad=>
  go_enter func98,ntmps98;go_wp2_with (at_builtin;refine MF (R:=cm) (sz:=3) _ rfl _ _ 23 rfl w.heap.size w.heap.size 75 i0 (.agg #[.string ⟨#[]⟩,.int .i64 0,.int .i64 0]) 32 underlying23 hi eu bG bL rfl (by decide) _ [] rfl (bS.empty w (bQ _)) (some ad) c w.heap.size xs rfl (HD.out.keep bM cu.out) (λr y h=>by (obtain⟨s,_,_,rfl⟩:=h;intro u hu;simp at hu;try rcases hu with rfl | rfl | rfl | rfl | rfl | rfl<;>rfl)) (by simp[maxLen];omega) (by simp;omega) (by simp) (bQ _) (bQ _) bM bY ?_;intro v3 w3 nF aq ii;have H3:=jq (And.intro nF (cu.out.trans aq));clear nF aq ii);go_ret;exact⟨_,rfl,H3.out.1,H3.out.2⟩
theorem Tryz.infoCloneSig:(prog.info? 56).map (λi=>(i.zero,i.size,i.bytes))=some (some (.agg #[.string ⟨#[]⟩,.int .i64 0,.int .i64 0,.int .i64 0,.int .i64 0,.int .u64 0]),6,56):=by kernel_rfl
theorem P5(v:Value)(xs:List Np.Sig)(hl:xs.length<=1000000)(w:World)(h:SlR en 6 w w.heap.size v xs) :
 Calls prog 99 #[v] w λe w'=>∃ v',e = .returned v'/\bS en 6 56 w.heap.size w.heap.size w' v' xs/\Below w.heap.size w w':=by
 have HD:=jq h;obtain⟨A,c,rfl,aR,cP⟩:=ba h;clear h;have heq:=run_eql_slice_nil (P:=prog) w 42 56 A xs.length c underlying42;have cu:Hid (Below w.heap.size w (w.alloc (.cells #[] 56))):=jq (blAl);obtain⟨i0,hi,eu,bG,bL⟩:=info_parts Tryz.infoCloneSig
 cases A with
 | none=>
  obtain⟨hn,rfl⟩:=UW HD.out;rw[List.length_nil] at heq |-;simp only[Option.isNone_none] at heq;go_enter func99,ntmps99;go_wp2_with fail;go_ret;exact⟨_,rfl,bS.nil _,vQ _ _⟩
 | some ad=>
  go_enter func99,ntmps99;go_wp2_with (at_builtin;refine MF (R:=en) (sz:=6) _ rfl _ _ 42 rfl w.heap.size w.heap.size 56 i0 (.agg #[.string ⟨#[]⟩,.int .i64 0,.int .i64 0,.int .i64 0,.int .i64 0,.int .u64 0]) 56 underlying42 hi eu bG bL rfl (by decide) _ [] rfl (bS.empty w (bQ _)) (some ad) c w.heap.size xs rfl (HD.out.keep dG cu.out) (λr y h=>by (obtain⟨s,_,_,rfl⟩:=h;intro u hu;simp at hu;try rcases hu with rfl | rfl | rfl | rfl | rfl | rfl<;>rfl)) (by simp[maxLen];omega) (by simp;omega) (by simp) (bQ _) (bQ _) dG el ?_;intro v3 w3 nF aq ii;have H3:=jq (And.intro nF (cu.out.trans aq));clear nF aq ii);go_ret;exact⟨_,rfl,H3.out.1,H3.out.2⟩
theorem TY(s z:ByteArray)(hs:s.size<=140737488355328)(hz:z.size<=140737488355328)(v1:Np.ai s.data.toList=true)(v2:Np.ai z.data.toList=true)(w:World) :
 Calls prog 142 #[.string s,.string z] w (aCX w.heap.size w (.bool (Np.aW s.data.toList z.data.toList))):=by
 go_enter func142,ntmps142;go_wp2_with fail;refine (vJ s z hs hz w v1 v2).mono ?_;rintro e w2 ⟨rfl,hb⟩;have HB:=jq hb;clear hb;go_wp2_with fail;exact bodyPost_ret (v:=.bool (Np.aW s.data.toList z.data.toList)) (by simp[results,results142,go_sem]) rfl ⟨rfl,HB.out⟩
theorem TS(a b:ByteArray)(ha:a.size<=140737488355328)(hb':b.size<=140737488355328)(v1:Np.ai a.data.toList=true)(v2:Np.ai b.data.toList=true)(w:World) :
 Calls prog 209 #[.string a,.string b] w (aCX w.heap.size w (.int .i64 (Np.br a.data.toList b.data.toList))):=by
 go_enter func209,ntmps209;go_wp2_with fail;refine (compare_any a b ha hb' w).mono ?_;rintro e w2 ⟨rfl,hb⟩;have hcv:o8 a.data.toList b.data.toList = .tuple #[.int .i64 (Np.br a.data.toList b.data.toList),.int .i64 0]:=by unfold o8;rw[v1,v2];rfl
 rw[hcv];clear hcv;have HB:=jq hb;clear hb;go_wp2_with fail;exact bodyPost_ret (v:=.int .i64 (Np.br a.data.toList b.data.toList)) (by simp[results,results209,go_sem]) rfl ⟨rfl,HB.out⟩
theorem Al(n:ByteArray)(ty:Int):pJ (n.data.toList,ty) = .agg #[.string n,.int .i64 ty]:=by
 unfold pJ bB;simp
def Uh(kvs:List ((List UInt8×Int)×Value))(l:Option Int)(p:List UInt8×Int):Prop:=kvs.lookup p=l.map (Value.int .i64)
theorem LY(V r:Nat)(kvs:List ((List UInt8×Int)×Value))(n:ByteArray)(ty:Int)(l:Option Int)(w:World)(hV:V<w.heap.size)(hc:w.cell? ⟨V,2,none⟩=some (.map (some r)))(hm:fB r kvs w)(hl:Uh kvs l (n.data.toList,ty)) :
 Calls prog 141 #[.pointer (some ⟨V,0,none⟩),.string n,.int .i64 ty] w (aCX w.heap.size w (.int .i64 (l.getD (-1)))):=by
 have hz:(zeroValue 3).run prog w = .ok (.int .i64 0) w:=zeroValue3 w;have ep:=DL w 119 3 underlying119 r kvs hm (n.data.toList,ty) (.int .i64 0) hz;rw[Al,show kvs.lookup (n.data.toList,ty)=l.map (Value.int .i64) from hl] at ep;have HL:=jq hl;clear hl hz hm
 cases l with
 | none=>
  simp only[Option.map_none,Option.getD_none,Option.isSome_none] at ep;go_enter func141,ntmps141;go_wp2_with fail;exact bodyPost_ret (v:=.int .i64 (-1)) (by simp[results,results141,go_sem]) rfl ⟨rfl,vQ _ _⟩
 | some i=>
  simp only[Option.map_some,Option.getD_some,Option.isSome_some] at ep;go_enter func141,ntmps141;go_wp2_with fail;exact bodyPost_ret (v:=.int .i64 i) (by simp[results,results141,go_sem]) rfl ⟨rfl,vQ _ _⟩
theorem U4(V r:Nat)(kvs:List ((List UInt8×Int)×Value))(n:ByteArray)(l:Option Int)(w:World)(hV:V<w.heap.size)(h0:w.cell? ⟨V,0,none⟩=some (.string n))(hc:w.cell? ⟨V,2,none⟩=some (.map (some r)))(hm:fB r kvs w)(hl:Uh kvs l (n.data.toList,4)) :
 Calls prog 145 #[.pointer (some ⟨V,0,none⟩)] w (aCX w.heap.size w (.int .i64 (l.getD (-1)))):=by
 have HC:=jq (LY V r kvs n 4 l w hV hc hm hl);clear hc hm hl;go_enter func145,ntmps145;go_wp2_with fail;refine HC.out.mono ?_;rintro e w2 ⟨rfl,hb⟩;have HB:=jq hb;clear hb;go_wp2_with fail;exact bodyPost_ret (v:=.int .i64 (l.getD (-1))) (by simp[results,results145,go_sem]) rfl ⟨rfl,HB.out⟩
end
section
open Go.RowKit
attribute [local go_sem] Oper.semAt_some
theorem Np.Me:∀ {l x:List UInt8},x∈Np.be l->46∉x:=by
 intro l
 induction l with
 | nil=>intro x h;simp[Np.be] at h;subst h;simp
 | cons c r ih=>
  intro x h;unfold Np.be at h;split at h
  ·rcases List.mem_cons.1 h with rfl | h
   ·simp
   ·exact ih h
  ·rename_i hc;split at h
   ·rename_i y ys hy;rcases List.mem_cons.1 h with rfl | h
    ·have:=ih (x:=y) (by rw[hy];simp)
     simp only[List.mem_cons,not_or];exact⟨λe=>hc e.symm,this⟩
    ·exact ih (by rw[hy];simp[h])
   ·simp at h;subst h;simp only[List.mem_singleton];exact λe=>hc e.symm
theorem Np.bjQ{a:List UInt8}(h:Np.ai a=true):∀ x∈Np.bC a,x≠[]/\46∉x:=λx hx=>by
 refine⟨Np.akQ h x (by rw[<-Np.oI];exact List.mem_reverse.2 hx),?_⟩;unfold Np.bC at hx;split at hx
 ·cases hx
 ·exact Np.Me hx
end
section
open Go.RowKit
def PK{α:Type}(p:α->Bool)(l:List α):Prop:=∀ x∈l,p x=false
theorem PK.any{α:Type}{p:α->Bool}{xs:List α}{k:Nat}(hk:xs.length<=k)(h:PK p (xs.take k)):xs.any p=false:=by
 rw[kQ hk] at h;exact List.any_eq_false.2 λx hx=>by simp[h x hx]

end
namespace Np
structure Ans where
 kind:Int
 sets:List Signed
 cut:List UInt8
def jN(g:Sig):Bool:=ai g.zone&&((decide (1<=g.key)&&decide (g.key<=1000000))&&((decide (1<=g.alg)&&decide (g.alg<=3))&&(decide (0<=g.frm)&&(decide (g.frm<=g.til)&&decide (g.til<=20000000)))))
def gW(s:Signed):Bool:=decide (s.sigs.length<=6)&&(bi s.set&&s.sigs.all jN)
def ib(a:Ans):Bool:=(decide (1<=a.kind)&&decide (a.kind<=7))&&(decide (a.sets.length<=40)&&(a.sets.all gW&&(if a.kind=4 then ai a.cut else a.cut == [])))
def uf(s:List UInt8):Bool:=ai s&&(s != [42]&&!([42,46].isPrefixOf s))
def p9(s z:List UInt8):Bool:=s != z&&bA s z
def ku(w s:List UInt8):Bool:=if w = [42] then s != [46] else [42,46].isPrefixOf w&&p9 s (w.drop 2)
def tO(a:Ans):List (List UInt8):=match a.sets.find? λs=>s.set.name == a.cut&&decide (s.set.type=2) with
 | none=>[]
 | some s=>s.set.data.map (·.text)
def yg(zone qn:List UInt8)(a:Ans)(s:DSet):Bool:=
 (p9 a.cut zone&&bA qn a.cut) &&
   (if s.type=2\/s.type=6\/s.type=8 then s.name == a.cut else decide (s.type=1)&&(bA s.name a.cut&&(tO a).any λx=>x == s.name))
def fN(zone qn:List UInt8)(qt:Int)(a:Ans)(s:DSet):Bool:=
 if a.kind=1 then s.name == qn&&decide (s.type=qt) else
 if a.kind=2 then decide (s.type=8)||(decide (s.type=qt)&&ku s.name qn) else
 if a.kind=3 then decide (s.type=8)||(decide (s.type=3)&&(s.name == qn||ku s.name qn)) else
 if a.kind=4 then yg zone qn a s else
 if a.kind=5\/a.kind=6 then decide (s.type=8)||(decide (s.type=4)&&bA qn s.name) else false
def Ax(zone qn:List UInt8)(qt:Int)(a:Ans)(s:Signed):Bool:=bA s.set.name zone&&fN zone qn qt a s.set
noncomputable def nt(zone qn:List UInt8)(qt:Int)(a:Ans):List Signed×Int:=
 if uf zone=false\/yes (QOk qn qt)=false\/ib a=false then ([],1) else
 if bA qn zone=false then ([],0) else (a.sets.filter (Ax zone qn qt a),0)
end Np
section
open Go.RowKit Go.Shelf
attribute [local go_sem] Oper.semAt_some
def Np.gX(p:Nat->Bool)(i j:Nat):Nat:=if h:i<j then (if p ((i+j) / 2)=true then Np.gX p i ((i+j) / 2) else Np.gX p ((i+j) / 2+1) j) else i
termination_by j - i
decreasing_by all_goals omega
theorem Np.GX(p:Nat->Bool){i j:Nat}(h:i<j):Np.gX p i j=if p ((i+j) / 2)=true then Np.gX p i ((i+j) / 2) else Np.gX p ((i+j) / 2+1) j:=by rw[Np.gX,dif_pos h]
theorem Np.DP(p:Nat->Bool){i j:Nat}(h:j<=i):Np.gX p i j=i:=by rw[Np.gX,dif_neg (by omega)]
theorem Np.DQ(p:Nat->Bool):∀ (k i j:Nat),j - i<=k->i<=j->Np.gX p i j<=j
 | 0,i,j,h,jD=>by rw[Np.DP p (by omega)];omega
 | k+1,i,j,h,jD=>by
   by_cases ag:i<j
   ·rw[Np.GX p ag];split
    ·have:=Np.DQ p k i ((i+j) / 2) (by omega) (by omega);omega
    ·exact Np.DQ p k ((i+j) / 2+1) j (by omega) (by omega)
   ·rw[Np.DP p (by omega)];omega
theorem UM(p:Nat->Bool)(g:Nat)(cb:Array Value)(n:Nat)(hn:n<=1000000)(w:World)(eg:∀ args w,(callFunc g args).run prog w = .ok (.enter g args) w)
 (hf:∀ (i:Nat) (w':World),i<n->Below w.heap.size w w'->Calls prog g (#[.int .i64 i]++cb) w' λe w''=>e = .returned (.bool (p i))/\Below w'.heap.size w' w'') :
 Calls prog 207 #[.int .i64 n,.func (.func g) #[] cb] w (aCX w.heap.size w (.int .i64 (Np.gX p 0 n:Nat))):=by
 have HF:=jq hf;clear hf;go_enter func207,ntmps207;go_wp2_with fail;go_loopw [5,6] (λvi vj wr=>∃ i j:Nat,i<=j/\j<=n/\Hid (Np.gX p i j=Np.gX p 0 n)/\vi = .int .i64 i/\vj = .int .i64 j/\Hid (Below w.heap.size w wr)) (λvi vj _=>(intOf vj - intOf vi).toNat)
 case atStart=>exact⟨0,n,by omega,by omega,jq rfl,rfl,rfl,jq (vQ _ _)⟩
 case round=>
  obtain⟨i,j,jD,hj,HS,rfl,rfl,HB⟩:=hrel;by_cases ag:i<j
  ·have h1:(i:Int)<(j:Int):=by omega
   clear ag;go_wp2_with fail;obtain⟨h,hh,R1⟩:∃ h:Nat,((i:Int)+(j:Int)) / 2=(h:Int)/\(i+j) / 2=h:=⟨(i+j) / 2,by omega,rfl⟩;simp only[hh];have HH:=jq R1;clear R1;have hi:i<=h:=by omega
   have F0:h<j:=by omega
   clear hh;refine (HF.out h wr (by omega) HB.out).mono ?_;obtain⟨b,KU⟩:=aaK (p h);rw[KU];have BD:=jq KU;clear KU;rintro e w2 ⟨rfl,ae⟩;have am:=jq (HB.out.trans (ae.mono HB.out.size));clear ae;have h9:(h:Int)<=1000000:=by omega
   cases b with
   | true=>
    go_wp2_with fail;go_roundw
    case rel=>exact⟨i,h,by omega,by omega,jq (by rw[<-HS.out,Np.GX p (show i<j by omega),HH.out,BD.out];rfl),rfl,rfl,am⟩
    case measure=>simp[intOf];omega
   | false=>
    go_wp2_with fail;go_roundw
    case rel=>exact⟨h+1,j,by omega,by omega,jq (by rw[<-HS.out,Np.GX p (show i<j by omega),HH.out,BD.out];rfl),by go_num,rfl,am⟩
    case measure=>simp[intOf];omega
  ·have h1:¬ (i:Int)<(j:Int):=by omega
   clear ag;go_wp2_with fail;go_ret;exact⟨by rw[<-HS.out,Np.DP p (show j<=i by omega)];rfl,HB.out⟩
end
namespace Np
structure PickI(xs:List Signed)(ps:List Int)(k:Nat)(l:List Signed):Prop where
 len:l.length<=k
 mem:∀ s∈l,∃ p∈ps,0<=p/\xs[p.toNat]?=some s
 head:∀ p x,1<=k->ps[0]?=some p->0<=p->xs[p.toNat]?=some x->l.head?=some x
theorem PickI.start(xs:List Signed)(ps:List Int):PickI xs ps 0 []:=⟨bQ _,by simp,λ_ _ h=>by omega⟩
theorem PickI.skip{xs:List Signed}{ps:List Int}{k:Nat}{l:List Signed}(h:PickI xs ps k l){p:Int}(hp:ps[k]?=some p)(hs:p<0\/p∈ps.take k):PickI xs ps (k+1) l:=by
 refine⟨Nat.le_succ_of_le h.len,h.mem,λq x _ h0 hq hx=>?_⟩
 cases k with
 | zero=>
  rw[hp] at h0
  cases h0
  rcases hs with h1 | h1
  ·omega
  ·simp at h1
 | succ k=>exact h.head q x (by omega) h0 hq hx
theorem PickI.add{xs:List Signed}{ps:List Int}{k:Nat}{l:List Signed}(h:PickI xs ps k l){i:Nat}{x:Signed}(hp:ps[k]?=some (i:Int))(hx:xs[i]?=some x):PickI xs ps (k+1) (l ++ [x]):=by
 refine⟨by have:=h.len;simp;omega,λs hs=>?_,λq y _ h0 hq hy=>?_⟩
 ·rcases List.mem_append.1 hs with hs | hs
  ·exact h.mem s hs
  ·rw[List.mem_singleton] at hs;subst hs;exact⟨_,gQ hp,by omega,by simpa using hx⟩
 ·cases k with
  | zero=>
   have hl:l = []:=rQ (by have:=h.len;omega);subst hl;rw[hp] at h0
   cases h0
   have e:xs[i]?=some y:=by simpa using hy
   rw[hx] at e
   cases e
   rfl
  | succ k=>
   have:=h.head q y (by omega) h0 hq hy
   rw[List.head?_append,this];rfl
theorem bOQ{c:List UInt8} : dm ([42]::bC c)=eR c:=by
 unfold bC eR;split
 ·rfl
 ·cases h:be c with
  | nil=>
   exfalso;have h2:=oM c;exact h2 h
  | cons x xs=>
   have e:=x9 c;rw[h] at e
   show[42]++46::dm (x::xs)=_
   rw[e];rfl
theorem bNK{c nm:List UInt8}(hc:ai c=true)(hn:ai nm=true)(hu:aW nm c=true)(hne:nm≠c):ku (eR c) nm=true:=by
 unfold eR;split
 ·rename_i h;subst h;unfold ku;rw[QbQ rfl];simpa using hne
 ·unfold ku;rw[Qc (by simp)];have h1:([42,46]:List UInt8).isPrefixOf (42::46::c)=true:=by simp[List.isPrefixOf]
  rw[h1];show (true&&p9 nm c)=true;unfold p9 bA;rw[hc,hn,hu];simpa using hne
theorem Uf{s:List UInt8}(h:ai s=true)(hr:s≠[46]):aW s (jo s)=true:=by
 obtain⟨h1,x,h2⟩:=t8 h hr;have hne:jo s≠[]:=by rintro e;rw[e] at h1;exact absurd h1 (by decide)
 rw[oO hne,<-oI,<-oI,h2,List.reverse_cons];exact List.prefix_append _ _
def je(xs:List Signed)(q:Int)(P:Signed->Prop):Prop:=0<=q->∀ x,xs[q.toNat]?=some x->P x
theorem je.imp{xs:List Signed}{q:Int}{P Q:Signed->Prop}(h:je xs q P)(hi:∀ x,P x->Q x):je xs q Q:=λh0 x hx=>hi x (h h0 x hx)
theorem GI{xs:List Signed}{q:Int}{P:Signed->Prop}(h:q<0):je xs q P:=λh0=>by omega
def vM(xs:List Signed)(ap nm:List UInt8)(ty kd:Int)(cut:List UInt8)(l:List Signed):Prop:=∀ s∈l,s∈xs/\fN ap nm ty ⟨kd,l,cut⟩ s.set=true
theorem uG{xs:List Signed}{ap nm:List UInt8}{ty kd:Int}{cut:List UInt8}{ps:List Int}{k:Nat}{l:List Signed}(h:PickI xs ps k l)(hp:∀ p∈ps,je xs p λx=>fN ap nm ty ⟨kd,l,cut⟩ x.set=true):vM xs ap nm ty kd cut l:=λs hs=>by
 obtain⟨p,h1,h2,h3⟩:=h.mem s hs;exact⟨gQ h3,hp p h1 h2 s h3⟩
theorem may1{ap nm:List UInt8}{ty:Int}{l:List Signed}{cut:List UInt8}{x:Signed}(h:bV x.set=(nm,ty)):fN ap nm ty ⟨1,l,cut⟩ x.set=true:=by
 unfold bV at h;obtain⟨h1,h2⟩:=Prod.mk.injEq .. ▸ h;unfold fN;rw[QbQ rfl,h1,h2];simp
theorem beQ{ap nm:List UInt8}{ty:Int}{l:List Signed}{cut:List UInt8}{x:Signed}(h:x.set.type=8):fN ap nm ty ⟨2,l,cut⟩ x.set=true:=by
 unfold fN;rw[Qc (by dsimp only;omega),QbQ rfl,h];rfl
theorem may2{ap nm wd:List UInt8}{ty:Int}{l:List Signed}{cut:List UInt8}{x:Signed}(h:bV x.set=(wd,ty))(hw:ku wd nm=true):fN ap nm ty ⟨2,l,cut⟩ x.set=true:=by
 unfold bV at h;obtain⟨h1,h2⟩:=Prod.mk.injEq .. ▸ h;unfold fN;rw[Qc (by dsimp only;omega),QbQ rfl,h1,h2,hw];simp
theorem beZ{ap nm:List UInt8}{ty:Int}{l:List Signed}{cut:List UInt8}{x:Signed}(h:x.set.type=8):fN ap nm ty ⟨3,l,cut⟩ x.set=true:=by
 unfold fN;rw[Qc (by dsimp only;omega),Qc (by dsimp only;omega),QbQ rfl,h];rfl
theorem T0{ap nm:List UInt8}{ty:Int}{l:List Signed}{cut:List UInt8}{x:Signed}{wd:List UInt8}(h:bV x.set=(wd,3))(hw:wd=nm\/ku wd nm=true):fN ap nm ty ⟨3,l,cut⟩ x.set=true:=by
 unfold bV at h;obtain⟨h1,h2⟩:=Prod.mk.injEq .. ▸ h;unfold fN;rw[Qc (by dsimp only;omega),Qc (by dsimp only;omega),QbQ rfl,h1,h2];rcases hw with rfl | hw
 ·simp
 ·rw[hw];simp
theorem Dz{ap nm:List UInt8}{ty kd:Int}(hk:kd=5\/kd=6){l:List Signed}{cut:List UInt8}{x:Signed}(h:x.set.type=8):fN ap nm ty ⟨kd,l,cut⟩ x.set=true:=by
 unfold fN;rw[Qc (by dsimp only;omega),Qc (by dsimp only;omega),Qc (by dsimp only;omega),Qc (by dsimp only;omega),QbQ hk,h];rfl
theorem LM{ap nm:List UInt8}{ty kd:Int}(hk:kd=5\/kd=6){l:List Signed}{cut:List UInt8}{x:Signed}(h:bV x.set=(ap,4))(hu:bA nm ap=true):fN ap nm ty ⟨kd,l,cut⟩ x.set=true:=by
 unfold bV at h;obtain⟨h1,h2⟩:=Prod.mk.injEq .. ▸ h;unfold fN;rw[Qc (by dsimp only;omega),Qc (by dsimp only;omega),Qc (by dsimp only;omega),Qc (by dsimp only;omega),QbQ hk,h1,h2,hu];rfl
def BX(cut:List UInt8)(x0 x:Signed):Prop:=((x.set.type=2\/x.set.type=6\/x.set.type=8)/\x.set.name=cut)\/(x.set.type=1/\bA x.set.name cut=true/\∃ d∈x0.set.data,d.text=x.set.name)
theorem may4{ap nm:List UInt8}{ty:Int}{l:List Signed}{cut:List UInt8}{x0 x:Signed}(hb:p9 cut ap=true)(hu:bA nm cut=true)(h0:l.head?=some x0)(hk:bV x0.set=(cut,2))(h:BX cut x0 x):fN ap nm ty ⟨4,l,cut⟩ x.set=true:=by
 unfold bV at hk;obtain⟨k1,k2⟩:=Prod.mk.injEq .. ▸ hk;have hh:tO ⟨4,l,cut⟩=x0.set.data.map (·.text):=by
  unfold tO
  cases l with
  | nil=>cases h0
  | cons y r=>
   simp only[List.head?_cons,Option.some.injEq] at h0;subst h0;rw[List.find?_cons_of_pos (by simp[k1,k2])]
 unfold fN;rw[Qc (by dsimp only;omega),Qc (by dsimp only;omega),Qc (by dsimp only;omega),QbQ rfl];unfold yg;dsimp only;rw[hb,hu,hh];rcases h with ⟨h1,h2⟩ | ⟨h1,h2,d,hd,h3⟩
 ·rw[QbQ h1,h2];simp
 ·rw[Qc (by omega),h2,h1];simp only[Bool.true_and,decide_true,List.any_map,List.any_eq_true];exact⟨d,hd,by simp[h3]⟩
theorem VF{ap:List UInt8}{xs:List Signed}(h:VZone ⟨ap,xs⟩):uf ap=true/\∀ x∈xs,bA x.set.name ap=true:=by
 have h1:=h.right;unfold gh at h1;simp only[Bool.and_eq_true,Bool.not_eq_true'] at h1;obtain⟨⟨h2,h3⟩,h4⟩:=h1;constructor
 ·unfold uf;rw[h2];unfold dC at h3
  cases ap with
  | nil=>rfl
  | cons c r=>
   have hc:c≠42:=by rintro rfl;simp at h3
   have e1:((c::r:List UInt8) != [42])=true:=by simp[hc]
   have e2:([42,46]:List UInt8).isPrefixOf (c::r)=false:=by simp[List.isPrefixOf,Ne.symm hc]
   rw[e1,e2];rfl
 ·have key:∀ (l:List Signed) (p:Option DSet),jg ap p l=true->∀ x∈l,bA x.set.name ap=true:=by
   intro l
   induction l with
   | nil=>simp
   | cons y r ih=>
    intro p hg x hx;unfold jg at hg;simp only[Bool.and_eq_true] at hg;rcases List.mem_cons.1 hx with rfl | hx
    ·unfold bA;rw[hg.1.1.1.1,h2,hg.1.1.1.2];rfl
    ·exact ih _ hg.2 x hx
  exact key xs none h4
theorem aUX{ap nm:List UInt8}{xs:List Signed}{ty:Int}{a:Ans}(hz:VZone ⟨ap,xs⟩)(hq:yes (QOk nm ty)=true)(hu:bA nm ap=true)(fe:ib a=true)(h:vM xs ap nm ty a.kind a.cut a.sets):nt ap nm ty a=(a.sets,0):=by
 obtain⟨h1,h2⟩:=VF hz;unfold nt;rw[Qc (by rw[h1,hq,fe];simp),Qc (by rw[hu];simp)];congr 1;rw[List.filter_eq_self];intro s hs;obtain⟨h3,h4⟩:=h s hs;unfold Ax;rw[h2 s h3,h4];rfl
end Np
end Go.Proofs.YtadhigmjilijcaaGreatDoor
