/- No condition. -/
import Derived.Shelf.Strings.OnBuilder
import Derived.Shelf.Strconv.Itoa3
import Derived.Shelf.Strings.LastIndex
import Derived.Shelf.Strings.Prefix
import Derived.Shelf.SlSortCmp.NoneTotal
import Derived.Test.YtadhigmjilijcaaGreatDoorA01
set_option linter.all false
set_option maxRecDepth 100000
set_option maxHeartbeats 8000000
namespace Go.Proofs.YtadhigmjilijcaaGreatDoor
open Go.Proofs.Tryz
namespace Np
structure TO{α:Type}(c:α->α->Int):Prop where
 self:∀ x,c x x=0
 zero:∀ x y,c x y=0->x=y
 anti:∀ x y,c x y<0->0<c y x
 anti':∀ x y,0<c x y->c y x<0
 trans:∀ x y z,c x y<0->c y z<0->c x z<0
theorem DY{s z:List UInt8}(hz:z≠[]):fk s z=true↔ar z <+: ar s:=by
 rw[<-vg hz,xx,<-rA,<-rA];constructor
 ·rintro⟨p,h⟩;exact⟨p.reverse,by rw[h,List.reverse_append]⟩
 ·rintro⟨p,h⟩;refine⟨p.reverse,?_⟩
  have:=Qd List.reverse h
  simpa using this.symm
theorem aGX(a:List UInt8):fk a a=true:=by simp[fk]
theorem aGZ{n a b:List UInt8}(ha:a≠[])(hb:b≠[])(h1:fk n a=true)(h2:fk n b=true):fk a b=true\/fk b a=true:=by
 rcases List.prefix_or_prefix_of_prefix ((DY ha).1 h1) ((DY hb).1 h2) with h | h
 ·exact .inr ((DY ha).2 h)
 ·exact .inl ((DY hb).2 h)
def LN(C:List UInt8->Bool)(n o:List UInt8):Prop:=
 (o = []/\∀ c,C c=true->fk n c=false)\/(C o=true/\fk n o=true/\∀ c,C c=true->fk o c=true->c=o)
theorem LN.above{C:List UInt8->Bool}(hC:∀ c,C c=true->c≠[]){n o c:List UInt8}(h:LN C n o)(hc:C c=true)(hu:fk n c=true):C o=true/\fk n o=true/\fk c o=true:=by
 rcases h with ⟨_,h⟩ | ⟨h1,h2,h3⟩
 ·rw[h c hc] at hu;cases hu
 ·refine⟨h1,h2,?_⟩;rcases aGZ (hC o h1) (hC c hc) h2 hu with h | h
  ·rw[h3 c hc h];exact aGX o
  ·exact h
def Qy(C:List UInt8->Bool)(cut n:List UInt8):List UInt8:=
 if (if cut≠[]/\fk n cut=false then [] else cut) = []/\C n=true then n else if cut≠[]/\fk n cut=false then [] else cut
structure aSY(C:List UInt8->Bool)(H:List (List UInt8)):Prop where
 cut:∀ h∈H,C h=true/\∀ c,C c=true->fk h c=true->c=h
 sorted:H.Pairwise λa b=>gE a b<0
end Np
section
open Go.RowKit
theorem atX{a b:Bool}(h:a=b):Ending.returned (.tuple #[.bool a,.int .i64 0]) = .returned (.tuple #[.bool b,.int .i64 0]):=by rw[h]
def Np.xK(s z:ByteArray):Bool:=decide (z.size<=s.size)&&((s.extract (s.size - z.size) s.size).toList == z.toList)
def Np.under(s z:ByteArray):Bool:=(s.toList == z.toList)||(z.toList == [46])||(decide (z.size<s.size)&&Np.xK s z&&((s.data.toList[s.size - z.size - 1]?).map UInt8.toNat == some 46))
theorem aDY(s z:ByteArray)(h:z.size<=s.size):Np.xK s z=(s.data.toList.drop (s.data.toList.length - z.data.toList.length) == z.data.toList):=by
 unfold Np.xK;rw[uQ h,Bool.true_and,dQ,dQ,uh,be,be]
theorem IQ(s z:ByteArray):Np.under s z=Np.fk s.data.toList z.data.toList:=by
 unfold Np.under Np.fk;rw[dQ,dQ,be,be];congr 1;by_cases h:z.size<s.size
 ·rw[aDY s z (by omega),be,be,uQ h];congr 1;have e:s.data.toList[s.size - z.size - 1]?=some (s[s.size - z.size - 1]'(by omega)):=wo s _ (by omega);rw[e];simp only[Option.map_some];rw[Bool.eq_iff_iff];simp only[beq_iff_eq,Option.some.injEq];constructor
  ·intro h;apply UInt8.toNat_inj.1;rw[h];rfl
  ·intro h;rw[h];rfl
 ·rw[tQ h];rfl
theorem YJ(s z:ByteArray)(hs:s.size<=140737488355328)(hz:z.size<=140737488355328)(w:World) :
 Calls prog 191 #[.string s,.string z] w λe w'=>e = .returned (.bool (Np.xK s z))/\w'=w:=by
 go_enter func191,ntmps191;go_wp2_with fail
 all_goals
  go_ret;refine⟨aw ?_,rfl⟩;simp_all [Np.xK]<;>(intros;omega)
theorem YI(s z:ByteArray)(hs:s.size<=140737488355328)(hz:z.size<=140737488355328)(w:World) :
 Calls prog 129 #[.string s,.string z] w λe w'=>e = .returned (.bool (Np.xK s z))/\w'=w:=by
 go_enter func129,ntmps129;go_wp2_with (go_at_call 191;refine (YJ s z hs hz _).mono ?_;rintro e w' ⟨rfl,rfl⟩);go_ret;exact⟨rfl,rfl⟩
theorem IR(s z:ByteArray)(hs:s.size<=140737488355328)(hz:z.size<=140737488355328)(w:World)(v1:Np.ao s.data.toList=true)(v2:Np.ao z.data.toList=true) :
 Calls prog 61 #[.string s,.string z] w (aUQ w.heap.size w (.tuple #[.bool (Np.fk s.data.toList z.data.toList),.int .i64 0])):=by
 rw[<-IQ];have V1:=jq v1;have V2:=jq v2;clear v1 v2;go_enter func61,ntmps61;go_wp2_with (first
  | (go_at_call 118;have v1:=V1.out;clear V1;refine (jH s hs _).mono ?_;rintro e w1 ⟨rfl,hb⟩;rw[v1];clear v1;have aH:=jq hb;clear hb)
  | (go_at_call 118;have v2:=V2.out;clear V2;refine (jH z hz _).mono ?_;rintro e w2 ⟨rfl,hb⟩;rw[v2];clear v2;have ax:=jq hb;clear hb)
  | (go_at_call 129;refine (YI s z hs hz _).mono ?_;rintro e w3 ⟨rfl,rfl⟩))
 all_goals
  go_ret2;refine⟨atX ?_,aH.out.trans (ax.out.mono aH.out.size)⟩;simp_all [Np.under,dQ]
 ·rename_i _ h1 h2 h3 _;have e1:(s.data == z.data)=false:=by simpa using h1
  have e2:(z.data.toList == [46])=false:=by simpa using h2
  have e3:s.data[s.size - z.size - 1]?=some s[s.size - z.size - 1]:=pQ (by simp;omega);rw[e1,e2,e3,Bool.eq_iff_iff];simp;omega
 ·intros;omega
theorem aGJ(s z:ByteArray)(hs:s.size<=140737488355328)(w:World)(v1:Np.ao s.data.toList=false) :
 Calls prog 61 #[.string s,.string z] w (aUQ w.heap.size w (.tuple #[.bool false,.int .i64 11])):=by
 have V1:=jq v1;clear v1;go_enter func61,ntmps61;go_wp2_with fail;refine (jH s hs _).mono ?_;rintro e w1 ⟨rfl,hb⟩;rw[V1.out];have aH:=jq hb;clear hb;go_wp2_with fail;go_ret2;exact⟨rfl,aH.out⟩
theorem DZ{s:Np.DSet}(h:Np.bo s=true):Np.ao s.name=true:=by
 unfold Np.bo at h;simp only[Bool.and_eq_true] at h;exact h.1.1.1.1.1.1
end
namespace Np
def WE(z:Zone)(n:List UInt8):Bool:=z.sets.any λx=>decide (x.set.type=2)&&!(x.set.name == z.apex)&&x.set.name == n
def LZ(C:List UInt8->Bool):List UInt8->List Signed->List (List UInt8)
 | _,[]=>[]
 | cut,x::r=>Qy C cut x.set.name::LZ C (Qy C cut x.set.name) r
def Cd(z:Zone):List (List UInt8):=LZ (WE z) [] z.sets
structure InOrder(z:Zone):Prop where
 order:(z.sets.map (·.set)).Pairwise λa b=>vZ a b<0
 name:∀ x∈z.sets,x.set.name≠[]
 type:∀ x∈z.sets,x.set.type<=8
theorem Wq{a b:DSet}(h:vZ a b<0):gE a.name b.name<=0:=by
 rw[L9] at h;split at h
 ·omega
 ·rename_i h0;have:=Decidable.not_not.1 h0;omega
theorem Wr{a b:DSet}(h:vZ a b<0)(he:a.name=b.name):a.type<b.type:=by
 rw[L9,he,L7,Qc (by simp)] at h;unfold ma at h;split at h
 ·assumption
 ·split at h<;>omega
theorem InOrder.names{z:Zone}(h:InOrder z){i j:Nat}(mo:i<j)(hj:j<z.sets.length):gE (z.sets[i]'(by omega)).set.name (z.sets[j]).set.name<=0:=by
 have:=List.pairwise_iff_getElem.1 h.order i j (by simp;omega) (by simpa using hj) mo
 rw[List.getElem_map,List.getElem_map] at this;exact Wq this
theorem InOrder.types{z:Zone}(h:InOrder z){i j:Nat}(mo:i<j)(hj:j<z.sets.length)(he:(z.sets[i]'(by omega)).set.name=(z.sets[j]).set.name):(z.sets[i]'(by omega)).set.type<(z.sets[j]).set.type:=by
 have:=List.pairwise_iff_getElem.1 h.order i j (by simp;omega) (by simpa using hj) mo
 rw[List.getElem_map,List.getElem_map] at this;exact Wr this he
def FC(t:Int)(at':Bool):Bool:=if t=3\/t=6 then !at' else if t=4\/t=7 then at' else true
structure SigOk(apex:List UInt8)(l:List Sig)(i:Nat)(g:Sig):Prop where
 zone:g.zone=apex
 key:1<=g.key/\g.key<=1000000
 alg:1<=g.alg/\g.alg<=3
 win:0<=g.frm/\g.frm<=g.til/\g.til<=20000000
 same:∀ a,l[0]?=some a->g.frm=a.frm/\g.til=a.til
 up:∀ p,l[i - 1]?=some p->0<i->p.key<g.key
def Ff(apex:List UInt8)(l:List Sig):Prop:=l.length<=6/\∀ i g,l[i]?=some g->SigOk apex l i g
def I7(x:DSet)(b:List UInt8):Prop:=(b = []->x.type≠6)/\(b≠[]->b=x.name->x.type=2\/x.type=6\/x.type=8\/x.type=1)/\(b≠[]->b≠x.name->x.type=1)
structure VZone(z:Zone):Prop where
 right:P6 z=true
 few:z.sets.length<=20000
 start:∃ x∈z.sets,x.set.name=z.apex/\x.set.type=4
 server:∃ x∈z.sets,x.set.name=z.apex/\x.set.type=2
 fits:∀ x∈z.sets,FC x.set.type (x.set.name == z.apex)=true
 aliasBefore:∀ i (hi:i+1<z.sets.length),(z.sets[i+1]).set.type=3->(z.sets[i]).set.name≠(z.sets[i+1]).set.name
 aliasBehind:∀ i (hi:i+1<z.sets.length),(z.sets[i]).set.type=3->(z.sets[i+1]).set.name=(z.sets[i]).set.name->(z.sets[i+1]).set.type=8
 cuts:∀ (i:Nat) (x:Signed) (b:List UInt8),z.sets[i]?=some x->(Cd z)[i]?=some b->I7 x.set b
 sigs:∀ (i:Nat) (x:Signed) (b:List UInt8),z.sets[i]?=some x->(Cd z)[i]?=some b->b≠[]->x.set.type=2\/x.set.type=1->x.sigs = []
 form:∀ x∈z.sets,Ff z.apex x.sigs
def ahY(l:List Signed):List UInt8:=l.foldl (λa x=>if x.set.type=3 then x.set.name else a) []
structure RZoneOk(z:Zone):Prop where
 right:P6 z=true
 few:z.sets.length<=20000
 start:∃ x∈z.sets,x.set.name=z.apex/\x.set.type=4
 server:∃ x∈z.sets,x.set.name=z.apex/\x.set.type=2
 fits:∀ x∈z.sets,FC x.set.type (x.set.name == z.apex)=true
 three:∀ i (hi:i+1<z.sets.length),(z.sets[i]).set.name=(z.sets[i+1]).set.name->(z.sets[i+1]).set.type≠3/\(ahY (z.sets.take (i+2))=(z.sets[i+1]).set.name->(z.sets[i+1]).set.type=8)
 cuts:∀ (i:Nat) (x:Signed) (b:List UInt8),z.sets[i]?=some x->(Cd z)[i]?=some b->I7 x.set b
 sigs:∀ (i:Nat) (x:Signed) (b:List UInt8),z.sets[i]?=some x->(Cd z)[i]?=some b->b≠[]->x.set.type=2\/x.set.type=1->x.sigs = []
 form:∀ x∈z.sets,Ff z.apex x.sigs
end Np
namespace Np
variable {α:Type} [DecidableEq α]
end Np
namespace Np
def jF(s:List UInt8):List UInt8:=match s.dropWhile (λc=>c != 46) with
 | []=>[46]
 | _::t=>t
theorem WV{s:List UInt8}(h:46∉s):s.dropWhile (λc=>c != 46) = []:=by
 induction s with
 | nil=>rfl
 | cons c s ih=>
  rw[List.dropWhile_cons,QbQ (by simp only[bne_iff_ne,ne_eq];rintro rfl;exact h (List.mem_cons_self ..)),ih (λk=>h (mQ _ k))]
theorem WU{a t:List UInt8}(h:46∉a):(a++46::t).dropWhile (λc=>c != 46)=46::t:=by
 induction a with
 | nil=>rfl
 | cons c a ih=>
  rw[List.cons_append,List.dropWhile_cons,QbQ (by simp only[bne_iff_ne,ne_eq];rintro rfl;exact h (List.mem_cons_self ..)),ih (λk=>h (mQ _ k))]
theorem PU{s:List UInt8}(h:46∉s):jF s = [46]:=by unfold jF;rw[WV h]
theorem PT{a t:List UInt8}(h:46∉a):jF (a++46::t)=t:=by unfold jF;rw[WU h]
theorem MF{s:List UInt8}(h:46∈s):∃ a t,s=a++46::t/\46∉a:=by
 induction s with
 | nil=>cases h
 | cons c s ih=>
  by_cases hc:c=46
  ·exact⟨[],s,by rw[hc];rfl,by simp⟩
  ·obtain⟨a,t,rfl,ha⟩:=ih ((List.mem_cons.1 h).resolve_left (λk=>hc k.symm));exact⟨c::a,t,rfl,by simp only[List.mem_cons,not_or];exact⟨λe=>hc e.symm,ha⟩⟩
theorem Hv{x:List UInt8}(h:bT x=true):x≠[]:=by
 rintro rfl;exact absurd h (by decide)
theorem PD{x:List UInt8}(h:bT x=true):46∉x:=λhm=>by
 unfold bT at h;simp only[Bool.and_eq_true,List.all_eq_true] at h;exact absurd (h.2 46 hm) (by decide)
theorem Ih{s:List UInt8}(h:ao s=true)(hr:s≠[46]):ao (jF s)=true/\∃ x,bY s=x::bY (jF s):=by
 have h0:=h;rw[tp,Qc hr] at h;split at h
 ·cases h
 ·rename_i pI;simp only[Bool.and_eq_true,Qa] at h;by_cases hd:46∈s
  ·obtain⟨a,t,rfl,ha⟩:=MF hd;rw[PT ha];rw[rE,nh ha] at h;obtain⟨h1,h2⟩:=h;simp only[List.singleton_append,fZ,Bool.and_eq_true,List.all_eq_true] at h1;have ht:t≠[46]:=λe=>by
    subst e;exact Hv (h1.2 [] (by simp[aR])) rfl
   refine⟨?_,a,?_⟩
   ·rw[tp,Qc ht,Qc (by simp at pI;omega)];simp only[Bool.and_eq_true,Qa];refine⟨?_,by simp at h2;omega⟩;have hne:=nf t
    cases hs:aR t with
    | nil=>rfl
    | cons y r=>
     rw[hs] at h1;simp only[fZ,Bool.and_eq_true,List.all_eq_true,Bool.or_eq_true];exact⟨.inl (h1.2 y (List.mem_cons_self ..)),λx hx=>h1.2 x (mQ _ hx)⟩
   ·unfold bY;rw[Qc hr,Qc ht,rE,nh ha];rfl
  ·rw[PU hd];refine⟨rfl,s,?_⟩;unfold bY;rw[Qc hr,QbQ rfl,nh hd]
theorem PV{a b:List UInt8}(h:bY a=bY b):a=b:=Fl (by rw[<-rA,<-rA,h])
theorem apX{s:List UInt8}(h:ao s=true)(hr:s≠[46]):(bY (jF s)).length<(bY s).length:=by
 obtain⟨_,x,hx⟩:=Ih h hr;rw[hx];simp
theorem Qv:∀ xs:List (List UInt8),xs≠[]->(∀ x∈xs,46∉x)->aR (bR xs)=xs:=by
 intro xs
 induction xs with
 | nil=>intro h;exact absurd rfl h
 | cons x r ih=>
  intro _ h
  cases r with
  | nil=>exact nh (h x (List.mem_cons_self ..))
  | cons y r=>
   rw[bR,rE,nh (h x (List.mem_cons_self ..)),ih (by simp) (λz hz=>h z (mQ _ hz))];rfl
theorem Pu{xs:List (List UInt8)}(hne:xs≠[])(h8:xs.length<=8)(hl:fZ xs=true)(pI:(bR xs).length<=60):ao (bR xs)=true:=by
 have hd:∀ x∈xs,46∉x:=by
  intro x hx
  cases xs with
  | nil=>cases hx
  | cons y r=>
   simp only[fZ,Bool.and_eq_true,List.all_eq_true,Bool.or_eq_true,beq_iff_eq] at hl;rcases List.mem_cons.1 hx with rfl | hx
   ·rcases hl.1 with h | h
    ·exact PD h
    ·rw[h];simp
   ·exact PD (hl.2 x hx)
 rw[tp];split
 ·rfl
 ·rw[Qc (by omega),Qv xs hne hd,hl];simp[h8]
structure aTQ(l out:List (List UInt8)):Prop where
 sub:out.Sublist l
 above:∀ c∈l,∃ h∈out,fk c h=true
 top:∀ h∈out,∀ c∈l,fk h c=true->c=h
end Np
section
open Go.RowKit
def dY(D:Nat->Prop)(w W:World):Prop:=w.heap.size<=W.heap.size/\∀ k,D k->k<w.heap.size/\W.heap[k]?=w.heap[k]?
theorem dY.refl{D:Nat->Prop}{w:World}(h:∀ k,D k->k<w.heap.size):dY D w w:=⟨bQ _,λk e=>⟨h k e,rfl⟩⟩
theorem dY.trans{D:Nat->Prop}{a b c:World}(h:dY D a b)(k:dY D b c):dY D a c:=⟨yQ h.1 k.1,λi e=>⟨(h.2 i e).1,((k.2 i e).2).trans (h.2 i e).2⟩⟩
theorem dY.of_below{D:Nat->Prop}{a b c:World}(h:dY D a b)(k:Below b.heap.size b c):dY D a c:=⟨yQ h.1 k.size,λi e=>⟨(h.2 i e).1,(k.block i (lqQ (h.2 i e).1 h.1)).trans (h.2 i e).2⟩⟩
theorem dY.cell{D:Nat->Prop}{w W:World}(h:dY D w W){p:Addr}(hp:D p.block):W.cell? p=w.cell? p:=iQ (h.2 _ hp).2
theorem dY.round{D S:Nat->Prop}{a b c:World}(h:dY D a b)(k:RdStep S b c)(hS:∀ i,S i->¬ D i):dY D a c:=⟨yQ h.1 k.size,λi e=>⟨(h.2 i e).1,(k.keep i (lqQ (h.2 i e).1 h.1) (λhs=>hS i hs e)).trans (h.2 i e).2⟩⟩
def ItO(B:Nat)(O S:Nat->Prop)(W W':World):Prop:=ItStep 0 (λk=>(k<B/\¬ O k)\/S k) W W'
theorem ItO.keep{B:Nat}{O S:Nat->Prop}{W W':World}(h:ItO B O S W W'):∀ k,k<W.heap.size->((k<B/\¬ O k)\/S k)->W'.heap[k]?=W.heap[k]?:=λk hk hs=>ItStep.keep h k hk (.inr hs)
theorem ItO.trans{B:Nat}{O S:Nat->Prop}{A W C:World}(h:ItO B O S A W)(k:ItO B O S W C):ItO B O S A C:=ItStep.trans h k
theorem ItO.size{B:Nat}{O S:Nat->Prop}{W W':World}(h:ItO B O S W W'):W.heap.size<=W'.heap.size:=ItStep.size h
theorem ItO.of_below{B:Nat}{O S:Nat->Prop}{A W:World}(h:Below A.heap.size A W):ItO B O S A W:=ItStep.of_below h
theorem nK{B:Nat}{O S:Nat->Prop}{W:World}{l:Nat}(o:Obj)(hl:B<=l)(hS:¬ S l):ItO B O S W (W.putObj l o):=
 mB o (jQ _) (λh=>by rcases h with h | h;exact absurd h.1 (by omega);exact hS h)
theorem DA{B:Nat}{O S:Nat->Prop}{W:World}(o:Obj):ItO B O S W (W.alloc o):=qe o
theorem Pr{B:Nat}{O S:Nat->Prop}{W:World}{p:Addr}(u:Value)(hO:O p.block)(hS:¬ S p.block):ItO B O S W (W.setCell p u):=
 ⟨rfl,rfl,rfl,by simp[World.setCell],λk _ hk=>wQ _ _ _ _ (by rintro rfl;rcases hk with hk | hk | hk;omega;exact hk.2 hO;exact hS hk)⟩
theorem DC{B B':Nat}{O S S':Nat->Prop}{W W':World}(h:ItO B O S W W')(hB:B'<=B)(hS:∀ k,S' k->S k):ItO B' O S' W W':=
 ItStep.weaken (B:=0) h (bQ _) (λk hk=>hk.imp (λe=>⟨by omega,e.2⟩) (hS k))
def jS{β:Type}(B:Nat)(O:Nat->Prop)(J:β->(Nat->Prop)->World->Prop):Prop:=∀ s S W W',J s S W->ItO B O S W W'->J s S W'
def Fg{α:Type}(P:Program)(gf:FuncId)(mk:Value->Array Value)(encs:α->Array Value)(xs:List α)(Dr O:Nat->Prop)(w:World):Prop:=
 ∀ (l:Nat) (J Jx:List α->(Nat->Prop)->World->Prop) (S:Nat->Prop) (W:World),dY Dr w W->dY O w W->
   jS W.heap.size O J->jS W.heap.size O Jx->
   (∀ pre x S1 W1,pre ++ [x] <+: xs->J pre S1 W1->(∀ k,S1 k->k<W1.heap.size)->W.heap.size<=W1.heap.size->
     YieldAt Fence.wide 0 P l (encs x) W1 (yJ J Jx pre x S1 W1))->
   (∀ k,S k->¬ Dr k)->(∀ k,S k->¬ O k)->(∀ k,S k->k<W.heap.size)->J [] S W->
   CallsIn Fence.wide 0 P gf (mk (.func (.yield l) #[] #[])) W λe W'=>(∃ v,e = .returned v)/\
    ((∃ S',J xs S' W'/\(∀ k,S' k->S k\/W.heap.size<=k))\/(∃ pre S',pre <+: xs/\Jx pre S' W'/\(∀ k,S' k->S k\/W.heap.size<=k)))
theorem aOK{α:Type}{P:Program}{g:Operand}{ps:Array Tmp}{assign body:Code}{Q:Exit->Act->World->Prop}{a:Act}{w:World}
 {gf:FuncId} {first captured:Array Value} (hg:a.eval g = .func (.func gf) first captured) (eg:∀ args w,(callFunc gf args).run P w = .ok (.enter gf args) w)
 {mk:Value->Array Value} {encs:α->Array Value} {xs:List α} {Dr O:Nat->Prop} {w0:World} (gH:∀ y,mk y=first ++ #[y]++captured)
 (hit:Fg P gf mk encs xs Dr O w0) (cF:dY Dr w0 w) (oj:dY O w0 w) (ej:∀ x,(encs x).size=ps.size)
 (I:List α->(Nat->Prop)->World->Prop) (Ix:Code->List α->(Nat->Prop)->World->Prop) (A:List α->α->(Nat->Prop)->Act->World->Prop)
 (hI:jS w.heap.size O I) (fg:∀ c,jS w.heap.size O (Ix c)) (hA:∀ pre x S a' W W',A pre x S a' W->ItO w.heap.size O S W W'->A pre x S a' W')
 (S0:Nat->Prop) (kO:∀ k,S0 k->¬ Dr k) (uq:∀ k,S0 k->¬ O k) (gl:∀ k,S0 k->k<w.heap.size) (h0:I [] S0 w)
 (uv:∀ (l:Nat) (pre:List α) (x:α) (S:Nat->Prop) (W:World),pre ++ [x] <+: xs->I pre S W->(∀ k,S k->k<W.heap.size)->
   assign.wpIn (Fence.wide.inRound l) 0 P (Exit.then (λa₁ W₁=>∃ S',RdStep S W W₁/\(∀ k,S' k->S k\/W.heap.size<=k)/\(∀ k,S' k->k<W₁.heap.size)/\A pre x S' a₁ W₁) (λ_ _ _=>False))
    { tmps:=(ps.zip (encs x)).foldl (λt (p,v)=>t.setIfInBounds p v) a.tmps,defers:=[] } W)
 (uz:∀ (l:Nat) (pre:List α) (x:α) (S:Nat->Prop) (a₁:Act) (W:World),pre ++ [x] <+: xs->A pre x S a₁ W->(∀ k,S k->k<W.heap.size)->
   body.wpIn (Fence.wide.inRound l) 0 P (ic I Ix (pre ++ [x]) S W) a₁ W)
 (kU:∀ (D:Nat) (S:Nat->Prop) (W:World),w.heap.size<=D->¬ S D->(∀ k,S k->S0 k\/w.heap.size<=k)->I xs S W->W.heap[D]?=some (.deferred (some []))->
   Q .normal { a with defers:={ target:=.collected D,args:=#[] } :: a.defers } W)
 (lh:∀ (D:Nat) (c:Code) (pre:List α) (S:Nat->Prop) (W:World),w.heap.size<=D->¬ S D->(∀ k,S k->S0 k\/w.heap.size<=k)->pre <+: xs->Ix c pre S W->W.heap[D]?=some (.deferred (some []))->
   c.wpIn Fence.wide 0 P Q { a with defers:={ target:=.collected D,args:=#[] } :: a.defers } W) :
 (Code.rangeFunc g ps assign body).wpIn Fence.wide 0 P Q a w:=by
 refine wpIn_rangeFunc ?_;intro fn mV;show ∃ (l:Nat) (mark:List Deferred) (w₁:World) (d:Deferred) (w₁':World) (f:FuncId) (args:Array Value) (w₂:World),(Instr.enterLoop fn a.tmps ps assign body none).run P w = .ok (l,mark) w₁/\_;obtain⟨rec,dh⟩:∃ rec:LoopState->Option Code->Loop,rec=λst pe=>{ state:=st,pending:=pe,fn,tmps:=a.tmps,params:=ps,assign,body,defers:=w.heap.size }:=⟨_,rfl⟩;obtain⟨W1,dl⟩:=aRZ ((w.alloc (.deferred (some []))).alloc (.loop (rec .ready none)));have au:W1.heap.size=w.heap.size+2:=by rw[<-dl];simp
 have pK:W1.heap[w.heap.size+1]?=some (.loop (rec .ready none)):=by
  rw[<-dl];have:=World.alloc_heap_new (w.alloc (.deferred (some []))) (.loop (rec .ready none));rwa [World.size_alloc] at this
 have um:W1.heap[w.heap.size]?=some (.deferred (some [])):=by
  rw[<-dl];exact (Below.heap_alloc _ _ _ (by simp)).trans (World.alloc_heap_new w _)
 have mO:I [] S0 W1:=by rw[<-dl];exact hI _ _ _ _ (hI _ _ _ _ h0 (DA _)) (DA _)
 have ay:dY Dr w0 W1:=by
  rw[<-dl];exact cF.of_below (((vQ _ w).alloc (bQ _) _).alloc (by simp) _)
 have Gj:dY O w0 W1:=by
  rw[<-dl];exact oj.of_below (((vQ _ w).alloc (bQ _) _).alloc (by simp) _)
 have od:∀ k,O k->k<w.heap.size:=λk h=>by have h1:=(oj.2 k h).1;have h2:=oj.1;omega
 refine⟨w.heap.size+1,[{ target:=.collected w.heap.size,args:=#[] }],W1,{ target:=.fn (.func gf) captured,args:=first ++ #[.func (.yield (w.heap.size+1)) #[] #[]] },W1,gf,
  first ++ #[.func (.yield (w.heap.size+1)) #[] #[]]++captured,W1,?_,?_,?_,?_,λh=>by simp[Fence.wide] at h,?_⟩
 ·rw[<-dl,dh];exact run_enterLoop_outer _ _ _ _ _
 ·simp only[resolve,hg];simp[go_sem]
 ·intro f' _;trivial
 ·simp[invoke,go_sem,eg]
 ·rw[<-gH];have key:=hit (w.heap.size+1)
   (λpre Si W=>∃ S:Nat->Prop,(∀ k,Si k↔S k\/k=w.heap.size+1)/\(¬ S w.heap.size)/\(¬ S (w.heap.size+1))/\(∀ k,S k->S0 k\/w.heap.size<=k)/\I pre S W/\W.heap[w.heap.size+1]?=some (.loop (rec .ready none))/\W.heap[w.heap.size]?=some (.deferred (some [])))
   (λpre Si W=>∃ (S:Nat->Prop) (c:Code),(∀ k,Si k↔S k\/k=w.heap.size+1)/\(¬ S w.heap.size)/\(¬ S (w.heap.size+1))/\(∀ k,S k->S0 k\/w.heap.size<=k)/\Ix c pre S W/\W.heap[w.heap.size+1]?=some (.loop (rec .done (some c)))/\W.heap[w.heap.size]?=some (.deferred (some [])))
   (λk=>S0 k\/k=w.heap.size+1) W1 ay Gj ?_ ?_ ?_ ?_ ?_ ?_ ?_
  ·refine key.mono ?_;rintro e W2 ⟨⟨v,rfl⟩,(⟨S',⟨S,bV,hD,hL,aP,hi,hl,hk⟩,_⟩ | ⟨pre,S',gU,⟨S,c,bV,hD,hL,aP,hi,hl,hk⟩,_⟩)⟩
   ·refine⟨none,_,by have:=run_endLoop (P:=P) hl (by rw[dh];simp);rw[dh] at this;exact this,?_⟩;exact kU _ S _ (bQ _) hD aP (hI _ _ _ _ hi (nK _ (by omega) hL)) ((zQ (by omega)).trans hk)
   ·refine⟨some c,_,by have:=run_endLoop (P:=P) hl (by rw[dh];simp);rw[dh] at this;exact this,?_⟩;exact lh _ c pre S _ (bQ _) hD aP gU ((fg c) _ _ _ _ hi (nK _ (by omega) hL)) ((zQ (by omega)).trans hk)
  ·rintro pre Si A1 B1 ⟨S,bV,hD,hL,aP,hi,hl,hk⟩ aq;have af:w.heap.size+1<A1.heap.size:=(eQ.1 hl).1;exact⟨S,bV,hD,hL,aP,hI _ _ _ _ hi (DC aq (by omega) (λk e=>(bV k).2 (.inl e))),(aq.keep _ af (.inl ⟨by omega,λe=>by have:=od _ e;omega⟩)).trans hl,(aq.keep _ (by omega) (.inl ⟨by omega,λe=>by have:=od _ e;omega⟩)).trans hk⟩
  ·rintro pre Si A1 B1 ⟨S,c,bV,hD,hL,aP,hi,hl,hk⟩ aq;have af:w.heap.size+1<A1.heap.size:=(eQ.1 hl).1;exact⟨S,c,bV,hD,hL,aP,fg c _ _ _ _ hi (DC aq (by omega) (λk e=>(bV k).2 (.inl e))),(aq.keep _ af (.inl ⟨by omega,λe=>by have:=od _ e;omega⟩)).trans hl,(aq.keep _ (by omega) (.inl ⟨by omega,λe=>by have:=od _ e;omega⟩)).trans hk⟩
  ·
   rintro pre x Si W bw ⟨S,bV,hD,hL,aP,hi,hl,hk⟩ dz us;have af:w.heap.size+1<W.heap.size:=(eQ.1 hl).1;have ur:∀ k,S k->k<W.heap.size:=λk e=>dz k ((bV k).2 (.inl e));have hy:=run_yield (P:=P) (args:=encs x) hl (by rw[dh];exact ej x);rw[dh] at hy;refine⟨fn,_,assign,body,hy,roundIn_of_wpIn mV (wpIn_mono (uv _ pre x S W bw hi ur) ?_)⟩;intro e a1 Wa hq
   cases e with
   | normal=>
    obtain⟨S1,cG,bp,rg,ui⟩:=hq;have oB:¬ S1 w.heap.size:=λe=>by rcases bp _ e with e | e;exact hD e;omega
    have kX:¬ S1 (w.heap.size+1):=λe=>by rcases bp _ e with e | e;exact hL e;omega
    have ke:Wa.heap[w.heap.size+1]?=some (.loop (rec .ready none)):=(cG.keep _ af hL).trans hl;have mW:Wa.heap[w.heap.size]?=some (.deferred (some [])):=(cG.keep _ (by omega) hD).trans hk;have oz:w.heap.size+1<Wa.heap.size:=(eQ.1 ke).1;refine⟨_,run_beginRound ke (by rw[dh]),?_⟩;have hb:=uz (w.heap.size+1) pre x S1 a1 (Wa.putObj (w.heap.size+1) (.loop { rec .ready none with state:=.busy })) bw (hA _ _ _ _ _ _ ui (nK _ (by omega) kX)) (λk e=>by simpa using rg k e);refine wpIn_mono hb ?_;have fin:∀ (jump:Option Code) (W3:World) (S3:Nat->Prop),RdStep S1 (Wa.putObj (w.heap.size+1) (.loop { rec .ready none with state:=.busy })) W3->(∀ k,S3 k->S1 k\/(Wa.putObj (w.heap.size+1) (.loop { rec .ready none with state:=.busy })).heap.size<=k)->(∀ k,S3 k->k<W3.heap.size)->
     (Instr.endRound (w.heap.size+1) jump).run P W3 = .ok (.bool jump.isNone) (W3.putObj (w.heap.size+1) (.loop (rec (if jump.isNone then .ready else .done) jump)))/\
     (W3.putObj (w.heap.size+1) (.loop (rec (if jump.isNone then .ready else .done) jump))).heap[w.heap.size+1]?=some (.loop (rec (if jump.isNone then .ready else .done) jump))/\
     (W3.putObj (w.heap.size+1) (.loop (rec (if jump.isNone then .ready else .done) jump))).heap[w.heap.size]?=some (.deferred (some []))/\
     ¬ S3 w.heap.size/\¬ S3 (w.heap.size+1)/\(∀ k,S3 k->S k\/W.heap.size<=k)/\
     RdStep Si W (W3.putObj (w.heap.size+1) (.loop (rec (if jump.isNone then .ready else .done) jump))):=λjump W3 S3 bN bu bF=>by
     have i5:(Wa.putObj (w.heap.size+1) (.loop { rec .ready none with state:=.busy })).heap[w.heap.size+1]?=some (.loop { rec .ready none with state:=.busy }):=World.putObj_heap_same oz;have pR:(Wa.putObj (w.heap.size+1) (.loop { rec .ready none with state:=.busy })).heap[w.heap.size]?=some (.deferred (some [])):=(zQ (by omega)).trans mW;have i6:=(bN.keep _ (by simpa using oz) kX).trans i5;have ox:=(bN.keep _ (by simp;omega) oB).trans pR;have gr:=(eQ.1 i6).1
     have:=run_endRound (P:=P) jump i6
     rw[dh] at this |-;have uW:=bN.size;have oJ:=cG.size;simp only[World.putObj_size] at uW bu;refine⟨this,World.putObj_heap_same gr,(zQ (by omega)).trans ox,λe=>?_,λe=>?_,λk e=>?_,?_⟩
     ·rcases bu _ e with e | e;exact oB e;omega
     ·rcases bu _ e with e | e;exact kX e;omega
     ·rcases bu _ e with e | e
      ·exact bp _ e
      ·right;omega
     ·refine⟨bN.os.trans cG.os,bN.tape.trans cG.tape,bN.output.trans cG.output,by simp;omega,λk hk' oC=>?_⟩;have gG:k≠w.heap.size+1:=λe=>oC ((bV k).2 (.inr e));have oD:¬ S k:=λe=>oC ((bV k).2 (.inl e));have uJ:¬ S1 k:=λe=>by rcases bp _ e with e | e;exact oD e;omega
      exact (zQ gG).trans ((bN.keep k (by simp;omega) uJ).trans ((zQ gG).trans (cG.keep k hk' oD)))
    have fin2:∀ (S3:Nat->Prop) (W3:World) (o:Obj),(∀ k,S3 k->k<W3.heap.size)->W.heap.size<=W3.heap.size->(∀ k,S3 k->S k\/W.heap.size<=k)->
     (∀ k,(S3 k\/k=w.heap.size+1)->Si k\/W.heap.size<=k)/\(∀ k,(S3 k\/k=w.heap.size+1)->k<(W3.putObj (w.heap.size+1) o).heap.size):=λS3 W3 o h1 h2 h3=>
     ⟨λk e=>by rcases e with e | e;exact (h3 k e).imp (λe'=>(bV k).2 (.inl e')) id;exact .inl ((bV k).2 (.inr e)),λk e=>by
      simp only[World.putObj_size];rcases e with e | e
      ·exact h1 k e
      ·omega⟩
    have sub3:∀ (S3:Nat->Prop),(∀ k,S3 k->S k\/W.heap.size<=k)->∀ k,S3 k->S0 k\/w.heap.size<=k:=λS3 h k e=>by
     rcases h k e with e | e
     ·exact aP k e
     ·right;omega
    rintro e a3 W3 hp
    cases e with
    | normal=>
     obtain⟨S3,bN,bu,bF,gq⟩:=hp;obtain⟨hr,fU,eE,eL,dT,cD,aZ⟩:=fin none W3 S3 bN bu bF;have au:W.heap.size<=W3.heap.size:=by simpa using aZ.size
     refine⟨_,_,hr,λk=>S3 k\/k=w.heap.size+1,aZ,(fin2 S3 W3 (.deferred none) bF au cD).1,(fin2 S3 W3 _ bF au cD).2,.inl ⟨rfl,S3,λ_=>Iff.rfl,eL,dT,sub3 S3 cD,hI _ _ _ _ gq (nK _ (by omega) dT),fU,eE⟩⟩
    | ret=>
     obtain⟨S3,bN,bu,bF,gq⟩:=hp;obtain⟨hr,fU,eE,eL,dT,cD,aZ⟩:=fin (some .ret) W3 S3 bN bu bF;have au:W.heap.size<=W3.heap.size:=by simpa using aZ.size
     refine⟨_,_,hr,λk=>S3 k\/k=w.heap.size+1,aZ,(fin2 S3 W3 (.deferred none) bF au cD).1,(fin2 S3 W3 _ bF au cD).2,.inr ⟨rfl,S3,.ret,λ_=>Iff.rfl,eL,dT,sub3 S3 cD,fg _ _ _ _ _ gq (nK _ (by omega) dT),fU,eE⟩⟩
    | exit id=>
     obtain⟨S3,bN,bu,bF,gq⟩:=hp;obtain⟨hr,fU,eE,eL,dT,cD,aZ⟩:=fin (some (.exit id)) W3 S3 bN bu bF;have au:W.heap.size<=W3.heap.size:=by simpa using aZ.size
     refine⟨_,_,hr,λk=>S3 k\/k=w.heap.size+1,aZ,(fin2 S3 W3 (.deferred none) bF au cD).1,(fin2 S3 W3 _ bF au cD).2,.inr ⟨rfl,S3,.exit id,λ_=>Iff.rfl,eL,dT,sub3 S3 cD,fg _ _ _ _ _ gq (nK _ (by omega) dT),fU,eE⟩⟩
    | goto t=>exact hp.elim
    | panic ch=>exact hp.elim
    | outgrown=>exact hp.elim
   | ret=>exact hq.elim
   | exit id=>exact hq.elim
   | goto t=>exact hq.elim
   | panic ch=>exact hq.elim
   | outgrown=>exact hq.elim
  ·rintro k (e | rfl)
   ·exact kO k e
   ·exact λh=>by have h1:=(cF.2 _ h).1;have h2:=cF.1;omega
  ·rintro k (e | rfl)
   ·exact uq k e
   ·exact λh=>by have:=od _ h;omega
  ·rintro k (e | rfl)
   ·have:=gl k e;omega
   ·omega
  ·exact⟨S0,λ_=>Iff.rfl,λe=>by have:=gl _ e;omega,λe=>by have:=gl _ e;omega,λ_ e=>.inl e,mO,pK,um⟩
theorem aOX{α:Type}{P:Program}{g:Operand}{ps:Array Tmp}{assign body:Code}{Q:Exit->Act->World->Prop}{a:Act}{w:World}
 {gf:FuncId} {first captured:Array Value} (hg:a.eval g = .func (.func gf) first captured) (eg:∀ args w,(callFunc gf args).run P w = .ok (.enter gf args) w)
 {mk:Value->Array Value} {encs:α->Array Value} {xs:List α} {Dr O:Nat->Prop} {w0:World} (gH:∀ y,mk y=first ++ #[y]++captured)
 (hit:Fg P gf mk encs xs Dr O w0) (cF:dY Dr w0 w) (oj:dY O w0 w) (ej:∀ x,(encs x).size=ps.size)
 (I:List α->(Nat->Prop)->World->Prop) (Ix:Code->List α->(Nat->Prop)->World->Prop)
 (hI:jS w.heap.size O I) (fg:∀ c,jS w.heap.size O (Ix c))
 (S0:Nat->Prop) (kO:∀ k,S0 k->¬ Dr k) (uq:∀ k,S0 k->¬ O k) (gl:∀ k,S0 k->k<w.heap.size) (h0:I [] S0 w)
 (uS:∀ (l0:Nat) (pre:List α) (x:α) (S:Nat->Prop) (W:World),pre ++ [x] <+: xs->I pre S W->(∀ k,S k->k<W.heap.size)->
   assign.wpIn (Fence.wide.inRound l0) 0 P (Exit.then (λa₁ W₁=>∃ S',RdStep S W W₁/\(∀ k,S' k->S k\/W.heap.size<=k)/\(∀ k,S' k->k<W₁.heap.size)/\
    ∀ l W₂,ItO w.heap.size O S' W₁ W₂->body.wpIn (Fence.wide.inRound l) 0 P (ic I Ix (pre ++ [x]) S' W₂) a₁ W₂) (λ_ _ _=>False))
    { tmps:=(ps.zip (encs x)).foldl (λt (p,v)=>t.setIfInBounds p v) a.tmps,defers:=[] } W)
 (kU:∀ (D:Nat) (S:Nat->Prop) (W:World),w.heap.size<=D->¬ S D->(∀ k,S k->S0 k\/w.heap.size<=k)->I xs S W->W.heap[D]?=some (.deferred (some []))->
   Q .normal { a with defers:={ target:=.collected D,args:=#[] } :: a.defers } W)
 (lh:∀ (D:Nat) (c:Code) (pre:List α) (S:Nat->Prop) (W:World),w.heap.size<=D->¬ S D->(∀ k,S k->S0 k\/w.heap.size<=k)->pre <+: xs->Ix c pre S W->W.heap[D]?=some (.deferred (some []))->
   c.wpIn Fence.wide 0 P Q { a with defers:={ target:=.collected D,args:=#[] } :: a.defers } W) :
 (Code.rangeFunc g ps assign body).wpIn Fence.wide 0 P Q a w:=
 aOK hg eg gH hit cF oj ej I Ix (λpre x S a₁ W=>∀ l W₂,ItO w.heap.size O S W W₂->body.wpIn (Fence.wide.inRound l) 0 P (ic I Ix (pre ++ [x]) S W₂) a₁ W₂)
  hI fg (λ_ _ _ _ _ _ h hs l W₂ h2=>h l W₂ (hs.trans h2)) S0 kO uq gl h0 uS (λl _ _ _ _ W _ h _=>h l W (ItStep.refl _ _ _)) kU lh
end
end Go.Proofs.YtadhigmjilijcaaGreatDoor
namespace Go.Proofs
open YtadhigmjilijcaaGreatDoor Tryz
open Go.Shelf
def Tryz.lays137_ren:Go.Shelf.Ren:=⟨fun | 137=>202 | 217=>255 | 266=>285 | n=>n,fun | 9=>9 | 5=>5 | 3=>3 | n=>n,fun | n=>n⟩
theorem Tryz.lays137:Go.Proofs.Lays.n137 Tryz.prog Tryz.lays137_ren:={
 mixed:=by kernel_rfl
 f137:=func202.trans (aTJ)
 f217:=func255.trans (aTJ)
 f266:=func285.trans (aTJ)
 t3:=underlying3
 a3:=isAgg3
 z3:=Tryz.sizeOf3
 v3:=Tryz.zeroValue3
 t5:=underlying5
 a5:=isAgg5
 z5:=Tryz.sizeOf5
 v5:=Tryz.zeroValue5
 t9:=underlying9
 a9:=isAgg9
 z9:=Tryz.sizeOf9
 v9:=Tryz.zeroValue9 }
open Go.RowKit in
theorem Tryz.strings_IndexByte(s:ByteArray)(c:Int)(w:World) :
 Calls Tryz.prog 202 #[.string s,.int .u8 c] w λe w'=>e = .returned (.int .i64 (Lib.indexByte s.data.toList c.toNat.toUInt8))/\w'=w:=Any.strings_IndexByte Tryz.lays137 s c w
end Go.Proofs
namespace Go.Proofs.YtadhigmjilijcaaGreatDoor
open Go.Proofs.Tryz
section
open Go.RowKit Go.Shelf
theorem aaX{a t:List UInt8}(h:46∉a):Lib.indexByte (a++46::t) 46=a.length:=by
 induction a with
 | nil=>rfl
 | cons c a ih=>
  have hc:(c == 46)=false:=by
   simp only[beq_eq_false_iff_ne,ne_eq];rintro rfl;exact h (List.mem_cons_self ..)
  have hm:((a.length:Int) == -1)=false:=by simp only[beq_eq_false_iff_ne,ne_eq];omega
  rw[List.cons_append,Lib.indexByte,hc,ih (λk=>h (mQ _ k)),hm];simp
theorem aaY{a:List UInt8}(h:46∉a):Lib.indexByte a 46 = -1:=by
 induction a with
 | nil=>rfl
 | cons c a ih=>
  have hc:(c == 46)=false:=by
   simp only[beq_eq_false_iff_ne,ne_eq];rintro rfl;exact h (List.mem_cons_self ..)
  rw[Lib.indexByte,hc,ih (λk=>h (mQ _ k))];rfl
theorem apK(s:ByteArray)(hs:s.size<=140737488355328)(hv:Np.ao s.data.toList=true)(hr:s.data.toList≠[46])(w:World) :
 Calls prog 139 #[.string s] w λe w'=>∃ p:ByteArray,e = .returned (.tuple #[.string p,.int .i64 0])/\p.data.toList=Np.jF s.data.toList/\p.size<=140737488355328/\Below w.heap.size w w':=by
 have HV:=jq hv;have a4Q:(s.toList == [46])=false:=by
  simp only[beq_eq_false_iff_ne,ne_eq,dQ];exact hr
 clear hv;by_cases hd:46∈s.data.toList
 ·obtain⟨a,t,hat,ha⟩:=Np.MF hd;have wT:Lib.indexByte s.data.toList 46=(a.length:Int):=by rw[hat,aaX ha]
  have hp:Np.jF s.data.toList=t:=by rw[hat,Np.PT ha]
  have hlen:a.length+1+t.length=s.size:=by rw[<-be,hat];simp;omega
  obtain⟨k,hk⟩:=aRZ a.length;rw[hk] at wT hlen;have HE:Hid ((s.extract (k+1) s.size).data.toList=t):=jq (by
   simp only[ByteArray.data_extract,Array.toList_extract,List.extract_eq_take_drop,hat];rw[show (a++46::t).drop (k+1)=t by rw[<-hk];simp];exact kQ (by omega))
  have HP:=jq hp;have EB:=jq wT;clear hd hat ha hp wT hk hr;have dp:k+1<=s.size:=by omega
  go_enter func139,ntmps139;go_wp2_with fail;refine (jH s hs _).mono ?_;rintro e w1 ⟨rfl,hb⟩;rw[HV.out];have HB:=jq hb;clear hb;go_wp2_with fail;refine (Tryz.strings_IndexByte _ _ _).mono ?_;rintro e w2 ⟨rfl,rfl⟩;rw[show Lib.indexByte s.data.toList (46:Int).toNat.toUInt8=(k:Int) from EB.out];go_wp2_with fail;go_ret2;exact⟨_,rfl,by rw[HP.out];exact HE.out,by simp<;>omega,HB.out⟩
 ·have wT:=aaY hd;have HP:=jq (Np.PU hd);have EB:=jq wT;clear hd wT hr;go_enter func139,ntmps139;go_wp2_with fail;refine (jH s hs _).mono ?_;rintro e w1 ⟨rfl,hb⟩;rw[HV.out];have HB:=jq hb;clear hb;go_wp2_with fail;refine (Tryz.strings_IndexByte _ _ _).mono ?_;rintro e w2 ⟨rfl,rfl⟩;rw[show Lib.indexByte s.data.toList (46:Int).toNat.toUInt8 = -1 from EB.out];go_wp2_with fail;go_ret2;exact⟨_,rfl,by rw[HP.out],by decide,HB.out⟩
end
section
section
variable {P:Program} {ops:Array Oper} {Q:Exit->Act->World->Prop} {n l:Nat}
theorem auK{row:String}{args:Array Value}{w:World}{R:Value->World->Prop}(h:Rows P row args w R):RowsIn (Fence.wide.inRound l) n P row args w R:=by
 intro c cs _;obtain⟨v,w',r,s⟩:=h c cs;exact⟨v,w',r,stepsIn_wide.2 s⟩
theorem aOJ{o:Oper}{a:Act}{K:Act->World->Prop}{w:World}(hd:∀ c,o.op≠.defer c)(qV:¬ LetsOut Q)(h:o.wp P a w K Q\/(o.asks P a w/\LetsOut Q)):o.wpIn (Fence.wide.inRound l) n P a w K Q:=by
 have h:=h.resolve_right (λe=>qV e.2);refine⟨λf _=>trivial,?_⟩;rw[Oper.semAt_eq _ _ _ hd];unfold Oper.wp at h;generalize (execOp a.eval o).run P w=r at *
 cases r with
 | ok x w'=>
  cases x<;>simp only[Oper.upon,Oper.uponIn] at h |-<;>first | exact h | exact h.elim | skip
  ·exact⟨λe=>by simp[Fence.wide] at e,CallsIn.inRound l (callsIn_wide.2 h)⟩
  ·exact⟨λe=>by simp[Fence.wide] at e,auK h⟩
 | halt x w'=>cases x<;>simp only[Oper.upon,Oper.uponIn] at h |-<;>first | exact h | exact h.elim
theorem aNX{md:Region.Mode}(hd:∀ (i:Nat) (o:Oper),ops[i]?=some o->∀ c,o.op≠.defer c)(qV:¬ LetsOut Q):∀ (f:Nat) {listed:Array Bool} {a:Act} {w:World},wpAny P md ops Q f listed a w->wpAnyIn (Fence.wide.inRound l) n P md ops Q f listed a w:=by
 intro f
 induction f with
 | zero=>exact λh=>h
 | succ f ih=>
  intro listed a w h;refine⟨h.1,λi hi=>?_⟩;have h2:=h.2 i hi;unfold wpOp at h2;unfold wpOpIn
  cases ho:ops[i]? with
  | none=>rw[ho] at h2;exact ih h2
  | some o=>
   rw[ho] at h2;dsimp only at h2 |-;split at h2
   ·rename_i hw;rw[QbQ hw];refine Oper.wpIn_mono (λa w h=>ih h) (aOJ (hd i o ho) qV h2)
   ·rename_i hw;rw[Qc hw];exact⟨λ_ _=>trivial,ih h2⟩
end
def Az(ops:Array Oper):Bool:=ops.all λo=>match o.op with | .defer _=>false | _=>true
theorem amX{ops:Array Oper}(h:Az ops=true):∀ (i:Nat) (o:Oper),ops[i]?=some o->∀ c,o.op≠.defer c:=λi o ho c e=>by
 unfold Az at h;rw[Array.all_eq_true] at h;obtain⟨hi,hg⟩:=eQ.1 ho
 have:=h i hi
 rw[hg,e] at this
 cases this
section
variable {P:Program} {ops:Array Oper} {Q:Exit->Act->World->Prop} {n l id:Nat} {a:Act} {w:World}
theorem I4(hd:Az ops=true)(hm:P.follows .mixedOrders=true)(qV:¬ LetsOut Q)(h:wpAny P .any ops Q ops.size (Array.replicate ops.size false) a w.drew):(Code.region id ops true).wpIn (Fence.wide.inRound l) n P Q a w:=
 wpIn_region_any hm (aNX (amX hd) qV _ h)
end
theorem I2{F:Fence}{n:Nat}{P:Program}{c:Code}{Q:Exit->Act->World->Prop}{a:Act}{w:World}(h:∀ a0,a0=a->c.wpIn F n P Q a0 w):c.wpIn F n P Q a w:=h a rfl
section
variable {P:Program} {ops:Array Oper} {Q:Exit->Act->World->Prop} {n l:Nat}
end
end
end Go.Proofs.YtadhigmjilijcaaGreatDoor
namespace Go.Proofs
open YtadhigmjilijcaaGreatDoor Tryz
open Go.Shelf
def Tryz.laysSort6_ren:Go.Shelf.Ren:=⟨fun | 6=>158 | 15=>222 | 14=>221 | 28=>270 | 29=>271 | 20=>262 | 21=>263 | 22=>264 | 23=>265 | 24=>266 | 25=>267 | 26=>268 | 27=>269 | 46=>291 | 47=>292 | 48=>293 | 49=>294 | 50=>295 | 57=>308 | n=>n,fun | 22=>102 | 24=>9 | 25=>189 | 3=>3 | 39=>237 | 0=>0 | 53=>258 | 55=>54 | 4=>4 | 46=>252 | 45=>251 | 50=>179 | 5=>5 | 9=>9 | 66=>274 | 70=>278 | 76=>285 | 77=>286 | n=>n,fun | n=>n⟩
theorem Tryz.laysSort6:Go.Proofs.SlLaysF.n6 Tryz.prog Tryz.laysSort6_ren:=by
 constructor
 case f6=>exact⟨f158.name,by decide,func158.trans (aTJ)⟩
 case f14=>exact⟨f221.name,by decide,func221.trans (aTJ)⟩
 case f15=>exact func222.trans (aTJ)
 case f20=>exact⟨f262.name,by decide,func262.trans (aTJ)⟩
 case f21=>exact⟨f263.name,by decide,func263.trans (aTJ)⟩
 case f22=>exact⟨f264.name,by decide,func264.trans (aTJ)⟩
 case f23=>exact⟨f265.name,by decide,func265.trans (aTJ)⟩
 case f24=>exact⟨f266.name,by decide,func266.trans (aTJ)⟩
 case f25=>exact⟨f267.name,by decide,func267.trans (aTJ)⟩
 case f26=>exact⟨f268.name,by decide,func268.trans (aTJ)⟩
 case f27=>exact⟨f269.name,by decide,func269.trans (aTJ)⟩
 case f28=>exact func270.trans (aTJ)
 case f29=>exact func271.trans (aTJ)
 case f46=>exact⟨f291.name,by decide,func291.trans (aTJ)⟩
 case f47=>exact func292.trans (aTJ)
 case f48=>exact func293.trans (aTJ)
 case f49=>exact⟨f294.name,by decide,func294.trans (aTJ)⟩
 case f50=>exact⟨f295.name,by decide,func295.trans (aTJ)⟩
 case f57=>exact⟨f308.name,by decide,func308.trans (aTJ)⟩
 all_goals first | kernel_rfl | (intro _;kernel_rfl) | (intro _;rfl)
def Tryz.laysSort06_ren:Go.Shelf.Ren:=⟨fun | 6=>158 | 15=>222 | 14=>221 | 28=>270 | 29=>271 | 20=>262 | 21=>263 | 22=>264 | 23=>265 | 24=>266 | 25=>267 | 26=>268 | 27=>269 | 46=>291 | 47=>292 | 48=>293 | 49=>294 | 50=>295 | 57=>308 | n=>n,fun | 22=>102 | 24=>9 | 25=>189 | 3=>3 | 39=>237 | 0=>0 | 53=>258 | 55=>54 | 4=>4 | 46=>252 | 45=>251 | 50=>179 | 5=>5 | 9=>9 | 66=>274 | 70=>278 | 76=>285 | 77=>286 | n=>n,fun | n=>n⟩
theorem Tryz.laysSort06:Go.Proofs.SlLaysF0.n6 Tryz.prog Tryz.laysSort06_ren:=by
 constructor
 case f6=>exact⟨f158.name,by decide,func158.trans (aTJ)⟩
 case f14=>exact⟨f221.name,by decide,func221.trans (aTJ)⟩
 case f15=>exact func222.trans (aTJ)
 case f20=>exact⟨f262.name,by decide,func262.trans (aTJ)⟩
 case f21=>exact⟨f263.name,by decide,func263.trans (aTJ)⟩
 case f22=>exact⟨f264.name,by decide,func264.trans (aTJ)⟩
 case f23=>exact⟨f265.name,by decide,func265.trans (aTJ)⟩
 case f24=>exact⟨f266.name,by decide,func266.trans (aTJ)⟩
 case f25=>exact⟨f267.name,by decide,func267.trans (aTJ)⟩
 case f26=>exact⟨f268.name,by decide,func268.trans (aTJ)⟩
 case f27=>exact⟨f269.name,by decide,func269.trans (aTJ)⟩
 case f28=>exact func270.trans (aTJ)
 case f29=>exact func271.trans (aTJ)
 case f46=>exact⟨f291.name,by decide,func291.trans (aTJ)⟩
 case f47=>exact func292.trans (aTJ)
 case f48=>exact func293.trans (aTJ)
 case f49=>exact⟨f294.name,by decide,func294.trans (aTJ)⟩
 case f50=>exact⟨f295.name,by decide,func295.trans (aTJ)⟩
 case f57=>exact⟨f308.name,by decide,func308.trans (aTJ)⟩
 all_goals first | kernel_rfl | (intro _;kernel_rfl) | (intro _;rfl)
open Go.RowKit Go.Lib Go.Sort in
theorem Tryz.slices_SortFunc_none{α:Type}[Inhabited α](p:Option Addr)(cap:Nat)(fv:Value)(w:World) :
 Calls Tryz.prog 158 #[.slice p 0 cap,fv] w λe w'=>e = .returned (.tuple #[])/\w'=w:=AnyF.slices_SortFunc_none Tryz.laysSort06 p cap fv w
open Go.RowKit Go.Lib Go.Sort in
theorem Tryz.slices_SortFunc_total{α:Type}[Inhabited α](enc:α->Value)(h1:OneCell enc)(cf:α->α->Int)(hO:SWO (ltOf cf))(g:Nat)(cb:Array Value)(blk off cap:Nat)(d:Array α)(w:World)(eg:∀ args w,(callFunc g args).run Tryz.prog w = .ok (.enter g args) w)(Gt:CmpLays1 Tryz.prog g cb enc cf blk off d.size w)(hH:Holds enc w blk off d)(YN:blk<w.heap.size)(au:d.size<4611686018427387904)(hT:∀ x y,(ltOf cf) x y=false->(ltOf cf) y x=false->x=y) :
 Calls Tryz.prog 158 #[.slice (some ⟨blk,off,none⟩) d.size cap,.func (.func g) #[] cb] w λe w'=>
  e = .returned (.tuple #[])/\∃ n os,w'=sortWorld enc w blk off n (d.toList.mergeSort λx y=>!(ltOf cf) y x).toArray os:=Any.slices_SortFunc_total Tryz.laysSort6 enc h1 cf hO g cb blk off cap d w eg Gt hH YN au hT
end Go.Proofs
namespace Go.Proofs.YtadhigmjilijcaaGreatDoor
open Go.Proofs.Tryz
section
open Go.RowKit
def Fh{α:Type}(P:Program)(gf:FuncId)(mk:Value->Array Value)(encs:α->Array Value)(Ok Fin:List α->Prop)(Dr O:Nat->Prop)(w:World):Prop:=
 ∀ (l:Nat) (J Jx:List α->(Nat->Prop)->World->Prop) (S:Nat->Prop) (W:World),dY Dr w W->dY O w W->
   jS W.heap.size O J->jS W.heap.size O Jx->
   (∀ pre x S1 W1,Ok (pre ++ [x])->J pre S1 W1->(∀ k,S1 k->k<W1.heap.size)->W.heap.size<=W1.heap.size->
     YieldAt Fence.wide 0 P l (encs x) W1 (yJ J Jx pre x S1 W1))->
   (∀ k,S k->¬ Dr k)->(∀ k,S k->¬ O k)->(∀ k,S k->k<W.heap.size)->J [] S W->
   CallsIn Fence.wide 0 P gf (mk (.func (.yield l) #[] #[])) W λe W'=>(∃ v,e = .returned v)/\
    ((∃ xs S',Fin xs/\J xs S' W'/\(∀ k,S' k->S k\/W.heap.size<=k))\/(∃ pre S',Ok pre/\Jx pre S' W'/\(∀ k,S' k->S k\/W.heap.size<=k)))
theorem aOY{α:Type}{P:Program}{g:Operand}{ps:Array Tmp}{assign body:Code}{Q:Exit->Act->World->Prop}{a:Act}{w:World}
 {gf:FuncId} {first captured:Array Value} (hg:a.eval g = .func (.func gf) first captured) (eg:∀ args w,(callFunc gf args).run P w = .ok (.enter gf args) w)
 {mk:Value->Array Value} {encs:α->Array Value} {Ok Fin:List α->Prop} {Dr O:Nat->Prop} {w0:World} (gH:∀ y,mk y=first ++ #[y]++captured)
 (hit:Fh P gf mk encs Ok Fin Dr O w0) (cF:dY Dr w0 w) (oj:dY O w0 w) (ej:∀ x,(encs x).size=ps.size)
 (I:List α->(Nat->Prop)->World->Prop) (Ix:Code->List α->(Nat->Prop)->World->Prop) (A:List α->α->(Nat->Prop)->Act->World->Prop)
 (hI:jS w.heap.size O I) (fg:∀ c,jS w.heap.size O (Ix c)) (hA:∀ pre x S a' W W',A pre x S a' W->ItO w.heap.size O S W W'->A pre x S a' W')
 (S0:Nat->Prop) (kO:∀ k,S0 k->¬ Dr k) (uq:∀ k,S0 k->¬ O k) (gl:∀ k,S0 k->k<w.heap.size) (h0:I [] S0 w)
 (uv:∀ (l:Nat) (pre:List α) (x:α) (S:Nat->Prop) (W:World),Ok (pre ++ [x])->I pre S W->(∀ k,S k->k<W.heap.size)->
   assign.wpIn (Fence.wide.inRound l) 0 P (Exit.then (λa₁ W₁=>∃ S',RdStep S W W₁/\(∀ k,S' k->S k\/W.heap.size<=k)/\(∀ k,S' k->k<W₁.heap.size)/\A pre x S' a₁ W₁) (λ_ _ _=>False))
    { tmps:=(ps.zip (encs x)).foldl (λt (p,v)=>t.setIfInBounds p v) a.tmps,defers:=[] } W)
 (uz:∀ (l:Nat) (pre:List α) (x:α) (S:Nat->Prop) (a₁:Act) (W:World),Ok (pre ++ [x])->A pre x S a₁ W->(∀ k,S k->k<W.heap.size)->
   body.wpIn (Fence.wide.inRound l) 0 P (ic I Ix (pre ++ [x]) S W) a₁ W)
 (kU:∀ (xs:List α) (D:Nat) (S:Nat->Prop) (W:World),Fin xs->w.heap.size<=D->¬ S D->(∀ k,S k->S0 k\/w.heap.size<=k)->I xs S W->W.heap[D]?=some (.deferred (some []))->
   Q .normal { a with defers:={ target:=.collected D,args:=#[] } :: a.defers } W)
 (lh:∀ (D:Nat) (c:Code) (pre:List α) (S:Nat->Prop) (W:World),w.heap.size<=D->¬ S D->(∀ k,S k->S0 k\/w.heap.size<=k)->Ok pre->Ix c pre S W->W.heap[D]?=some (.deferred (some []))->
   c.wpIn Fence.wide 0 P Q { a with defers:={ target:=.collected D,args:=#[] } :: a.defers } W) :
 (Code.rangeFunc g ps assign body).wpIn Fence.wide 0 P Q a w:=by
 refine wpIn_rangeFunc ?_;intro fn mV;show ∃ (l:Nat) (mark:List Deferred) (w₁:World) (d:Deferred) (w₁':World) (f:FuncId) (args:Array Value) (w₂:World),(Instr.enterLoop fn a.tmps ps assign body none).run P w = .ok (l,mark) w₁/\_;obtain⟨rec,dh⟩:∃ rec:LoopState->Option Code->Loop,rec=λst pe=>{ state:=st,pending:=pe,fn,tmps:=a.tmps,params:=ps,assign,body,defers:=w.heap.size }:=⟨_,rfl⟩;obtain⟨W1,dl⟩:=aRZ ((w.alloc (.deferred (some []))).alloc (.loop (rec .ready none)));have au:W1.heap.size=w.heap.size+2:=by rw[<-dl];simp
 have pK:W1.heap[w.heap.size+1]?=some (.loop (rec .ready none)):=by
  rw[<-dl];have:=World.alloc_heap_new (w.alloc (.deferred (some []))) (.loop (rec .ready none));rwa [World.size_alloc] at this
 have um:W1.heap[w.heap.size]?=some (.deferred (some [])):=by
  rw[<-dl];exact (Below.heap_alloc _ _ _ (by simp)).trans (World.alloc_heap_new w _)
 have mO:I [] S0 W1:=by rw[<-dl];exact hI _ _ _ _ (hI _ _ _ _ h0 (DA _)) (DA _)
 have ay:dY Dr w0 W1:=by
  rw[<-dl];exact cF.of_below (((vQ _ w).alloc (bQ _) _).alloc (by simp) _)
 have Gj:dY O w0 W1:=by
  rw[<-dl];exact oj.of_below (((vQ _ w).alloc (bQ _) _).alloc (by simp) _)
 have od:∀ k,O k->k<w.heap.size:=λk h=>by have h1:=(oj.2 k h).1;have h2:=oj.1;omega
 refine⟨w.heap.size+1,[{ target:=.collected w.heap.size,args:=#[] }],W1,{ target:=.fn (.func gf) captured,args:=first ++ #[.func (.yield (w.heap.size+1)) #[] #[]] },W1,gf,
  first ++ #[.func (.yield (w.heap.size+1)) #[] #[]]++captured,W1,?_,?_,?_,?_,λh=>by simp[Fence.wide] at h,?_⟩
 ·rw[<-dl,dh];exact run_enterLoop_outer _ _ _ _ _
 ·simp only[resolve,hg];simp[go_sem]
 ·intro f' _;trivial
 ·simp[invoke,go_sem,eg]
 ·rw[<-gH];have key:=hit (w.heap.size+1)
   (λpre Si W=>∃ S:Nat->Prop,(∀ k,Si k↔S k\/k=w.heap.size+1)/\(¬ S w.heap.size)/\(¬ S (w.heap.size+1))/\(∀ k,S k->S0 k\/w.heap.size<=k)/\I pre S W/\W.heap[w.heap.size+1]?=some (.loop (rec .ready none))/\W.heap[w.heap.size]?=some (.deferred (some [])))
   (λpre Si W=>∃ (S:Nat->Prop) (c:Code),(∀ k,Si k↔S k\/k=w.heap.size+1)/\(¬ S w.heap.size)/\(¬ S (w.heap.size+1))/\(∀ k,S k->S0 k\/w.heap.size<=k)/\Ix c pre S W/\W.heap[w.heap.size+1]?=some (.loop (rec .done (some c)))/\W.heap[w.heap.size]?=some (.deferred (some [])))
   (λk=>S0 k\/k=w.heap.size+1) W1 ay Gj ?_ ?_ ?_ ?_ ?_ ?_ ?_
  ·refine key.mono ?_;rintro e W2 ⟨⟨v,rfl⟩,(⟨xs,S',sU,⟨S,bV,hD,hL,aP,hi,hl,hk⟩,_⟩ | ⟨pre,S',gU,⟨S,c,bV,hD,hL,aP,hi,hl,hk⟩,_⟩)⟩
   ·refine⟨none,_,by have:=run_endLoop (P:=P) hl (by rw[dh];simp);rw[dh] at this;exact this,?_⟩;exact kU xs _ S _ sU (bQ _) hD aP (hI _ _ _ _ hi (nK _ (by omega) hL)) ((zQ (by omega)).trans hk)
   ·refine⟨some c,_,by have:=run_endLoop (P:=P) hl (by rw[dh];simp);rw[dh] at this;exact this,?_⟩;exact lh _ c pre S _ (bQ _) hD aP gU ((fg c) _ _ _ _ hi (nK _ (by omega) hL)) ((zQ (by omega)).trans hk)
  ·rintro pre Si A1 B1 ⟨S,bV,hD,hL,aP,hi,hl,hk⟩ aq;have af:w.heap.size+1<A1.heap.size:=(eQ.1 hl).1;exact⟨S,bV,hD,hL,aP,hI _ _ _ _ hi (DC aq (by omega) (λk e=>(bV k).2 (.inl e))),(aq.keep _ af (.inl ⟨by omega,λe=>by have:=od _ e;omega⟩)).trans hl,(aq.keep _ (by omega) (.inl ⟨by omega,λe=>by have:=od _ e;omega⟩)).trans hk⟩
  ·rintro pre Si A1 B1 ⟨S,c,bV,hD,hL,aP,hi,hl,hk⟩ aq;have af:w.heap.size+1<A1.heap.size:=(eQ.1 hl).1;exact⟨S,c,bV,hD,hL,aP,fg c _ _ _ _ hi (DC aq (by omega) (λk e=>(bV k).2 (.inl e))),(aq.keep _ af (.inl ⟨by omega,λe=>by have:=od _ e;omega⟩)).trans hl,(aq.keep _ (by omega) (.inl ⟨by omega,λe=>by have:=od _ e;omega⟩)).trans hk⟩
  ·
   rintro pre x Si W bw ⟨S,bV,hD,hL,aP,hi,hl,hk⟩ dz us;have af:w.heap.size+1<W.heap.size:=(eQ.1 hl).1;have ur:∀ k,S k->k<W.heap.size:=λk e=>dz k ((bV k).2 (.inl e));have hy:=run_yield (P:=P) (args:=encs x) hl (by rw[dh];exact ej x);rw[dh] at hy;refine⟨fn,_,assign,body,hy,roundIn_of_wpIn mV (wpIn_mono (uv _ pre x S W bw hi ur) ?_)⟩;intro e a1 Wa hq
   cases e with
   | normal=>
    obtain⟨S1,cG,bp,rg,ui⟩:=hq;have oB:¬ S1 w.heap.size:=λe=>by rcases bp _ e with e | e;exact hD e;omega
    have kX:¬ S1 (w.heap.size+1):=λe=>by rcases bp _ e with e | e;exact hL e;omega
    have ke:Wa.heap[w.heap.size+1]?=some (.loop (rec .ready none)):=(cG.keep _ af hL).trans hl;have mW:Wa.heap[w.heap.size]?=some (.deferred (some [])):=(cG.keep _ (by omega) hD).trans hk;have oz:w.heap.size+1<Wa.heap.size:=(eQ.1 ke).1;refine⟨_,run_beginRound ke (by rw[dh]),?_⟩;have hb:=uz (w.heap.size+1) pre x S1 a1 (Wa.putObj (w.heap.size+1) (.loop { rec .ready none with state:=.busy })) bw (hA _ _ _ _ _ _ ui (nK _ (by omega) kX)) (λk e=>by simpa using rg k e);refine wpIn_mono hb ?_;have fin:∀ (jump:Option Code) (W3:World) (S3:Nat->Prop),RdStep S1 (Wa.putObj (w.heap.size+1) (.loop { rec .ready none with state:=.busy })) W3->(∀ k,S3 k->S1 k\/(Wa.putObj (w.heap.size+1) (.loop { rec .ready none with state:=.busy })).heap.size<=k)->(∀ k,S3 k->k<W3.heap.size)->
     (Instr.endRound (w.heap.size+1) jump).run P W3 = .ok (.bool jump.isNone) (W3.putObj (w.heap.size+1) (.loop (rec (if jump.isNone then .ready else .done) jump)))/\
     (W3.putObj (w.heap.size+1) (.loop (rec (if jump.isNone then .ready else .done) jump))).heap[w.heap.size+1]?=some (.loop (rec (if jump.isNone then .ready else .done) jump))/\
     (W3.putObj (w.heap.size+1) (.loop (rec (if jump.isNone then .ready else .done) jump))).heap[w.heap.size]?=some (.deferred (some []))/\
     ¬ S3 w.heap.size/\¬ S3 (w.heap.size+1)/\(∀ k,S3 k->S k\/W.heap.size<=k)/\
     RdStep Si W (W3.putObj (w.heap.size+1) (.loop (rec (if jump.isNone then .ready else .done) jump))):=λjump W3 S3 bN bu bF=>by
     have i5:(Wa.putObj (w.heap.size+1) (.loop { rec .ready none with state:=.busy })).heap[w.heap.size+1]?=some (.loop { rec .ready none with state:=.busy }):=World.putObj_heap_same oz;have pR:(Wa.putObj (w.heap.size+1) (.loop { rec .ready none with state:=.busy })).heap[w.heap.size]?=some (.deferred (some [])):=(zQ (by omega)).trans mW;have i6:=(bN.keep _ (by simpa using oz) kX).trans i5;have ox:=(bN.keep _ (by simp;omega) oB).trans pR;have gr:=(eQ.1 i6).1
     have:=run_endRound (P:=P) jump i6
     rw[dh] at this |-;have uW:=bN.size;have oJ:=cG.size;simp only[World.putObj_size] at uW bu;refine⟨this,World.putObj_heap_same gr,(zQ (by omega)).trans ox,λe=>?_,λe=>?_,λk e=>?_,?_⟩
     ·rcases bu _ e with e | e;exact oB e;omega
     ·rcases bu _ e with e | e;exact kX e;omega
     ·rcases bu _ e with e | e
      ·exact bp _ e
      ·right;omega
     ·refine⟨bN.os.trans cG.os,bN.tape.trans cG.tape,bN.output.trans cG.output,by simp;omega,λk hk' oC=>?_⟩;have gG:k≠w.heap.size+1:=λe=>oC ((bV k).2 (.inr e));have oD:¬ S k:=λe=>oC ((bV k).2 (.inl e));have uJ:¬ S1 k:=λe=>by rcases bp _ e with e | e;exact oD e;omega
      exact (zQ gG).trans ((bN.keep k (by simp;omega) uJ).trans ((zQ gG).trans (cG.keep k hk' oD)))
    have fin2:∀ (S3:Nat->Prop) (W3:World) (o:Obj),(∀ k,S3 k->k<W3.heap.size)->W.heap.size<=W3.heap.size->(∀ k,S3 k->S k\/W.heap.size<=k)->
     (∀ k,(S3 k\/k=w.heap.size+1)->Si k\/W.heap.size<=k)/\(∀ k,(S3 k\/k=w.heap.size+1)->k<(W3.putObj (w.heap.size+1) o).heap.size):=λS3 W3 o h1 h2 h3=>
     ⟨λk e=>by rcases e with e | e;exact (h3 k e).imp (λe'=>(bV k).2 (.inl e')) id;exact .inl ((bV k).2 (.inr e)),λk e=>by
      simp only[World.putObj_size];rcases e with e | e
      ·exact h1 k e
      ·omega⟩
    have sub3:∀ (S3:Nat->Prop),(∀ k,S3 k->S k\/W.heap.size<=k)->∀ k,S3 k->S0 k\/w.heap.size<=k:=λS3 h k e=>by
     rcases h k e with e | e
     ·exact aP k e
     ·right;omega
    rintro e a3 W3 hp
    cases e with
    | normal=>
     obtain⟨S3,bN,bu,bF,gq⟩:=hp;obtain⟨hr,fU,eE,eL,dT,cD,aZ⟩:=fin none W3 S3 bN bu bF;have au:W.heap.size<=W3.heap.size:=by simpa using aZ.size
     refine⟨_,_,hr,λk=>S3 k\/k=w.heap.size+1,aZ,(fin2 S3 W3 (.deferred none) bF au cD).1,(fin2 S3 W3 _ bF au cD).2,.inl ⟨rfl,S3,λ_=>Iff.rfl,eL,dT,sub3 S3 cD,hI _ _ _ _ gq (nK _ (by omega) dT),fU,eE⟩⟩
    | ret=>
     obtain⟨S3,bN,bu,bF,gq⟩:=hp;obtain⟨hr,fU,eE,eL,dT,cD,aZ⟩:=fin (some .ret) W3 S3 bN bu bF;have au:W.heap.size<=W3.heap.size:=by simpa using aZ.size
     refine⟨_,_,hr,λk=>S3 k\/k=w.heap.size+1,aZ,(fin2 S3 W3 (.deferred none) bF au cD).1,(fin2 S3 W3 _ bF au cD).2,.inr ⟨rfl,S3,.ret,λ_=>Iff.rfl,eL,dT,sub3 S3 cD,fg _ _ _ _ _ gq (nK _ (by omega) dT),fU,eE⟩⟩
    | exit id=>
     obtain⟨S3,bN,bu,bF,gq⟩:=hp;obtain⟨hr,fU,eE,eL,dT,cD,aZ⟩:=fin (some (.exit id)) W3 S3 bN bu bF;have au:W.heap.size<=W3.heap.size:=by simpa using aZ.size
     refine⟨_,_,hr,λk=>S3 k\/k=w.heap.size+1,aZ,(fin2 S3 W3 (.deferred none) bF au cD).1,(fin2 S3 W3 _ bF au cD).2,.inr ⟨rfl,S3,.exit id,λ_=>Iff.rfl,eL,dT,sub3 S3 cD,fg _ _ _ _ _ gq (nK _ (by omega) dT),fU,eE⟩⟩
    | goto t=>exact hp.elim
    | panic ch=>exact hp.elim
    | outgrown=>exact hp.elim
   | ret=>exact hq.elim
   | exit id=>exact hq.elim
   | goto t=>exact hq.elim
   | panic ch=>exact hq.elim
   | outgrown=>exact hq.elim
  ·rintro k (e | rfl)
   ·exact kO k e
   ·exact λh=>by have h1:=(cF.2 _ h).1;have h2:=cF.1;omega
  ·rintro k (e | rfl)
   ·exact uq k e
   ·exact λh=>by have:=od _ h;omega
  ·rintro k (e | rfl)
   ·have:=gl k e;omega
   ·omega
  ·exact⟨S0,λ_=>Iff.rfl,λe=>by have:=gl _ e;omega,λe=>by have:=gl _ e;omega,λ_ e=>.inl e,mO,pK,um⟩
theorem aPQ{α:Type}{P:Program}{g:Operand}{ps:Array Tmp}{assign body:Code}{Q:Exit->Act->World->Prop}{a:Act}{w:World}
 {gf:FuncId} {first captured:Array Value} (hg:a.eval g = .func (.func gf) first captured) (eg:∀ args w,(callFunc gf args).run P w = .ok (.enter gf args) w)
 {mk:Value->Array Value} {encs:α->Array Value} {Ok Fin:List α->Prop} {Dr O:Nat->Prop} {w0:World} (gH:∀ y,mk y=first ++ #[y]++captured)
 (hit:Fh P gf mk encs Ok Fin Dr O w0) (cF:dY Dr w0 w) (oj:dY O w0 w) (ej:∀ x,(encs x).size=ps.size)
 (I:List α->(Nat->Prop)->World->Prop) (Ix:Code->List α->(Nat->Prop)->World->Prop)
 (hI:jS w.heap.size O I) (fg:∀ c,jS w.heap.size O (Ix c))
 (S0:Nat->Prop) (kO:∀ k,S0 k->¬ Dr k) (uq:∀ k,S0 k->¬ O k) (gl:∀ k,S0 k->k<w.heap.size) (h0:I [] S0 w)
 (uS:∀ (l0:Nat) (pre:List α) (x:α) (S:Nat->Prop) (W:World),Ok (pre ++ [x])->I pre S W->(∀ k,S k->k<W.heap.size)->
   assign.wpIn (Fence.wide.inRound l0) 0 P (Exit.then (λa₁ W₁=>∃ S',RdStep S W W₁/\(∀ k,S' k->S k\/W.heap.size<=k)/\(∀ k,S' k->k<W₁.heap.size)/\
    ∀ l W₂,ItO w.heap.size O S' W₁ W₂->body.wpIn (Fence.wide.inRound l) 0 P (ic I Ix (pre ++ [x]) S' W₂) a₁ W₂) (λ_ _ _=>False))
    { tmps:=(ps.zip (encs x)).foldl (λt (p,v)=>t.setIfInBounds p v) a.tmps,defers:=[] } W)
 (kU:∀ (xs:List α) (D:Nat) (S:Nat->Prop) (W:World),Fin xs->w.heap.size<=D->¬ S D->(∀ k,S k->S0 k\/w.heap.size<=k)->I xs S W->W.heap[D]?=some (.deferred (some []))->
   Q .normal { a with defers:={ target:=.collected D,args:=#[] } :: a.defers } W)
 (lh:∀ (D:Nat) (c:Code) (pre:List α) (S:Nat->Prop) (W:World),w.heap.size<=D->¬ S D->(∀ k,S k->S0 k\/w.heap.size<=k)->Ok pre->Ix c pre S W->W.heap[D]?=some (.deferred (some []))->
   c.wpIn Fence.wide 0 P Q { a with defers:={ target:=.collected D,args:=#[] } :: a.defers } W) :
 (Code.rangeFunc g ps assign body).wpIn Fence.wide 0 P Q a w:=
 aOY hg eg gH hit cF oj ej I Ix (λpre x S a₁ W=>∀ l W₂,ItO w.heap.size O S W W₂->body.wpIn (Fence.wide.inRound l) 0 P (ic I Ix (pre ++ [x]) S W₂) a₁ W₂)
  hI fg (λ_ _ _ _ _ _ h hs l W₂ h2=>h l W₂ (hs.trans h2)) S0 kO uq gl h0 uS (λl _ _ _ _ W _ h _=>h l W (ItStep.refl _ _ _)) kU lh
end
end Go.Proofs.YtadhigmjilijcaaGreatDoor
