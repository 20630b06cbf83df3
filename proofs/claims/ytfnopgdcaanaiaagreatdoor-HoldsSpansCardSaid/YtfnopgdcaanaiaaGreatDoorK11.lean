/- Parts of the proof. No condition. -/
import Derived.RegionTactic
import Derived.Laws.MakeOwn
import Derived.ChangeAlike
import Derived.Test.YtfnopgdcaanaiaaGreatDoorK07
set_option linter.all false
set_option maxRecDepth 100000
set_option maxHeartbeats 8000000
namespace Go.Proofs.YtfnopgdcaanaiaaGreatDoor
open Go.Proofs.Tryz
section
open Go.RowKit
def RTx(_:World)(_:Nat)(e:List Value)(x:List UInt8):Prop:=∃ s:ByteArray,s.data.toList=x/\s.size<=140737488355328/\e = [.string s]
theorem nr:dl RTx:=λ_ _ _ _ _ h _=>h
theorem QW:dJ RTx:=λ_ _ _ _ _ h _=>h
def fV(a:List UInt8)(l:List Np.Signed):List (List UInt8×Value):=(l.filter λx=>decide (x.set.type=2)&&!(x.set.name == a)).map λx=>(x.set.name,.bool true)
theorem VF(a:List UInt8)(l:List Np.Signed)(x:Np.Signed):fV a (l ++ [x])=if x.set.type=2/\x.set.name≠a then fV a l ++ [(x.set.name,.bool true)] else fV a l:=by
 unfold fV;rw[List.filter_append];by_cases h1:x.set.type=2 <;> by_cases h2:x.set.name=a <;> simp[h1,h2]
theorem VE(a:List UInt8)(l:List Np.Signed)(x:Np.Signed):fV a (x::l)=if x.set.type=2/\x.set.name≠a then (x.set.name,.bool true)::fV a l else fV a l:=by
 unfold fV;by_cases h1:x.set.type=2 <;> by_cases h2:x.set.name=a <;> simp[h1,h2]
theorem DE(a:List UInt8)(n:List UInt8):∀ l:List Np.Signed,((fV a l).lookup n).getD (.bool false) = .bool (Np.cu ⟨a,l⟩ n)/\((∀ x∈l,x.set.type=2->x.set.name≠n)->(fV a l).lookup n=none)
 | []=>⟨rfl,λ_=>rfl⟩
 | x::l=>by
   obtain⟨i1,i2⟩:=DE a n l;have e:Np.cu ⟨a,x::l⟩ n=((decide (x.set.type=2)&&!(x.set.name == a)&&x.set.name == n)||Np.cu ⟨a,l⟩ n):=rfl;rw[VE];split
   ·rename_i h;by_cases hn:x.set.name=n
    ·rw[hn,List.lookup_cons_self];refine⟨?_,λhh=>absurd hn (hh x (by simp) h.1)⟩;rw[e];have h2:=h.2;rw[hn] at h2 |-;simp[h.1,h2]
    ·have hb:(n == x.set.name)=false:=by simpa using λe=>hn e.symm
     rw[List.lookup_cons,hb];refine⟨?_,λhh=>i2 λy hy=>hh y (mQ _ hy)⟩;have ac:(x.set.name == n)=false:=by simpa using hn
     rw[e,ac,Bool.and_false,Bool.false_or];exact i1
   ·rename_i h;refine⟨?_,λhh=>i2 λy hy=>hh y (mQ _ hy)⟩;have hf:(decide (x.set.type=2)&&!(x.set.name == a))=false:=by
     rw[Bool.and_eq_false_iff];by_cases h1:x.set.type=2
     ·right
      have:x.set.name=a:=Decidable.not_not.1 λh2=>h ⟨h1,h2⟩
      simp[this]
     ·left;simpa using h1
    rw[e,hf,Bool.false_and,Bool.false_or];exact i1
theorem JI(n j:Nat)(hj:j<n):(madeCells #[Value.string ⟨#[]⟩] n)[j]?=some (.string ⟨#[]⟩):=by
 unfold madeCells;simp[hj,Nat.mod_one]
theorem Tryz.infoStrZ:(prog.info? 9).map (λi=>(i.zero,i.size,i.bytes))=some (some (.string ⟨#[]⟩),1,16):=by kernel_rfl
theorem JJ(n:Nat)(hn:n<=20000)(w:World):(Instr.makeSlice 116 (.int .i64 n) (.int .i64 n)).run prog w = .ok (.slice (some ⟨w.heap.size,0,none⟩) n n) (w.alloc (.cells (madeCells #[Value.string ⟨#[]⟩] n) 9)):=by
 obtain⟨i,hi,hp⟩:=Option.map_eq_some_iff.1 Tryz.infoStrZ;simp only[Prod.mk.injEq] at hp;obtain⟨hz,hs,hb⟩:=hp
 have:=run_make (P:=prog) w 116 9 i (.string ⟨#[]⟩) underlying116 hi hz .i64 .i64 n n (by omega) (Int.le_refl _) (by rw[hb];omega) (by omega)
 rw[hs] at this;simpa [Value.cells] using this
def fe(w:World)(B:Nat)(xs:List (List UInt8)):Prop:=∀ j x,xs[j]?=some x->∃ s:ByteArray,s.data.toList=x/\s.size<=140737488355328/\w.cell? ⟨B,j,none⟩=some (.string s)/\w.frozen? ⟨B,j,none⟩=false
theorem fe.keep{w w':World}{B n:Nat}{xs:List (List UInt8)}(h:fe w B xs)(hb:Below n w w')(hB:B<n):fe w' B xs:=λj x hx=>by
 obtain⟨s,h1,h2,h3,h4⟩:=h j x hx;exact⟨s,h1,h2,(hb.cell (p:=⟨B,j,none⟩) hB).trans h3,(hb.frozen (p:=⟨B,j,none⟩) hB).trans h4⟩
theorem fe.store{w:World}{B:Nat}{xs:List (List UInt8)}(h:fe w B xs){k:Nat}(hk:k<xs.length)(s:ByteArray)(hs:s.size<=140737488355328):fe (w.setCell ⟨B,k,none⟩ (.string s)) B (xs.set k s.data.toList):=λj x hx=>by
 rw[List.getElem?_set] at hx;by_cases BG:k=j
 ·subst BG;rw[Qb rfl,Qb hk] at hx
  cases hx
  obtain⟨s0,_,_,h3,h4⟩:=h k _ (aQ hk);exact⟨s,rfl,hs,by simp[World.cell?_setCell_same,h3],(World.frozen?_setCell _ _ _ _).trans h4⟩
 ·rw[Qc BG] at hx;obtain⟨s0,h1,h2,h3,h4⟩:=h j x hx;exact⟨s0,h1,h2,by rw[xQ _ _ _ _ (by simp <;> omega)];exact h3,(World.frozen?_setCell _ _ _ _).trans h4⟩
theorem fe.other{w:World}{B:Nat}{xs:List (List UInt8)}(h:fe w B xs){p:Addr}(hp:p.block≠B)(u:Value):fe (w.setCell p u) B xs:=λj x hx=>by
 obtain⟨s,h1,h2,h3,h4⟩:=h j x hx;exact⟨s,h1,h2,(xQ _ _ _ _ (λe=>hp (by rw[e]))).trans h3,(World.frozen?_setCell _ _ _ _).trans h4⟩
theorem fe.slr{w:World}{B:Nat}{xs:List (List UInt8)}(h:fe w B xs)(hB:B<w.heap.size)(hl:xs.length<=140737488355328):SlR RTx 1 w w.heap.size (.slice (some ⟨B,0,none⟩) xs.length xs.length) xs:=
 ⟨_,_,rfl,bQ _,hl,λj x hx=>by
  obtain⟨s,h1,h2,h3,_⟩:=h j x hx;refine⟨B,0,[.string s],rfl,hB,rfl,λi v hv=>?_,s,h1,h2,rfl⟩
  match i,hv with
  | 0,hv=>cases hv;simpa using h3⟩
theorem QT{bs:List (List UInt8)}{n k:Nat}{b:List UInt8}(hn:bs.length=n)(hb:bs[k]?=some b):(bs.take k++List.replicate (n - k) []).set k b=bs.take (k+1)++List.replicate (n - (k+1)) []:=by
 obtain⟨hk,rfl⟩:=cQ.1 hb;have e:n - k=(n - (k+1))+1:=by omega
 rw[e,List.replicate_succ,List.set_append_right _ _ (by rw[List.length_take];omega),List.length_take,show k - min k bs.length=0 by omega,List.set_cons_zero,fQ hk,List.append_assoc];rfl
structure LayK(w:World)(M Bl Bs:Nat)(a:ByteArray)(v sl:Value)(kv:List (List UInt8×Value))(wr:World)(bs:List (List UInt8)):Prop where
 below:Below w.heap.size w wr
 b0:wr.cell? ⟨w.heap.size,0,none⟩=some (.string a)
 b1:wr.cell? ⟨w.heap.size,1,none⟩=some v
 r0:wr.cell? ⟨w.heap.size+1,0,none⟩=some (.string ⟨#[]⟩)
 r1:wr.cell? ⟨w.heap.size+1,1,none⟩=some (.slice none 0 0)
 r2:wr.cell? ⟨w.heap.size+1,2,none⟩=some (.slice none 0 0)
 l0:wr.cell? ⟨Bl,0,none⟩=some (.string a)
 l1:wr.cell? ⟨Bl,1,none⟩=some v
 l2:wr.cell? ⟨Bl,2,none⟩=some sl
 map:cI M kv wr
 row:fe wr Bs bs
 blt:Bl<wr.heap.size
 slt:Bs<wr.heap.size
 rf:∀ j,wr.frozen? ⟨w.heap.size+1,j,none⟩=false
structure LayB(n M Bl Bs:Nat):Prop where
 map:n+2=M
 lay:M<Bl
 row:M<Bs
 ne:Bl≠Bs
theorem LayK.keep{w:World}{M Bl Bs:Nat}{a:ByteArray}{v sl:Value}{kv:List (List UInt8×Value)}{wr wx:World}{bs:List (List UInt8)}(h:LayK w M Bl Bs a v sl kv wr bs)(hB:LayB w.heap.size M Bl Bs)(hb:Below wr.heap.size wr wx):LayK w M Bl Bs a v sl kv wx bs:=by
 have h1:=hB.map;have h2:=hB.lay;have h3:=h.blt;have h4:=h.slt;have h5:=h.map.lt;have ap:=hb.size;exact⟨h.below.trans (hb.mono h.below.size),(hb.cell (by simp <;> omega)).trans h.b0,(hb.cell (by simp <;> omega)).trans h.b1,(hb.cell (by simp <;> omega)).trans h.r0,(hb.cell (by simp <;> omega)).trans h.r1,(hb.cell (by simp <;> omega)).trans h.r2,
  (hb.cell (by simp <;> omega)).trans h.l0,(hb.cell (by simp <;> omega)).trans h.l1,(hb.cell (by simp <;> omega)).trans h.l2,h.map.keep hb h5,h.row.keep hb h4,by omega,by omega,λj=>(hb.frozen (by simp <;> omega)).trans (h.rf j)⟩
theorem cI.setCell{r:Nat}{kvs:List (List UInt8×Value)}{w:World}(h:cI r kvs w){p:Addr}(hp:p.block≠r)(u:Value):cI r kvs (w.setCell p u):=by
 obtain⟨es,c,h1,h2⟩:=h;exact⟨es,c,(wQ _ _ _ _ (λe=>hp e.symm)).trans h1,h2⟩
theorem LayK.store{w:World}{M Bl Bs:Nat}{a:ByteArray}{v sl:Value}{kv:List (List UInt8×Value)}{wr:World}{bs:List (List UInt8)}(h:LayK w M Bl Bs a v sl kv wr bs)(hB:LayB w.heap.size M Bl Bs){k:Nat}(hk:k<bs.length)(s:ByteArray)(hs:s.size<=140737488355328):LayK w M Bl Bs a v sl kv (wr.setCell ⟨Bs,k,none⟩ (.string s)) (bs.set k s.data.toList):=by
 have h1:=hB.map;have h2:=hB.lay;have h3:=hB.row;have h4:=hB.ne;exact⟨h.below.setCell (by simp <;> omega) _,(xQ _ _ _ _ (by simp <;> omega)).trans h.b0,(xQ _ _ _ _ (by simp <;> omega)).trans h.b1,(xQ _ _ _ _ (by simp <;> omega)).trans h.r0,(xQ _ _ _ _ (by simp <;> omega)).trans h.r1,(xQ _ _ _ _ (by simp <;> omega)).trans h.r2,
  (xQ _ _ _ _ (by simp <;> omega)).trans h.l0,(xQ _ _ _ _ (by simp <;> omega)).trans h.l1,(xQ _ _ _ _ (by simp <;> omega)).trans h.l2,h.map.setCell (by simp <;> omega) _,h.row.store hk s hs,by simpa using h.blt,by simpa using h.slt,λj=>(World.frozen?_setCell _ _ _ _).trans (h.rf j)⟩
def L5(w:World)(M Bl Bs:Nat)(a:ByteArray)(v sl:Value)(kv:List (List UInt8×Value))(B:List (List UInt8))(C:List UInt8->Bool)(l:List Np.Signed)(vc i:Value)(wr:World):Prop:=
 ∃ (k:Nat) (sc:ByteArray),k<=l.length/\i = .int .i64 k/\vc = .string sc/\sc.size<=140737488355328/\Hid (LayK w M Bl Bs a v sl kv wr (B.take k++List.replicate (l.length - k) []))/\Hid (sc.data.toList = []\/Np.aG sc.data.toList=true)/\Hid (B.drop k=Np.nK C sc.data.toList (l.drop k))
def LayA(M:Nat)(w1:World)(a:List UInt8)(l:List Np.Signed)(i:Value)(wr:World):Prop:=
 ∃ k:Nat,k<=l.length/\i = .int .i64 k/\Hid (Below M w1 wr)/\Hid (cI M (fV a (l.take k)) wr)
theorem aaJ(a:ByteArray)(v:Value)(l:List Np.Signed)(bM:l.length<=20000)(hv:∀ x∈l,Np.aG x.set.name=true)(hs:Np.uW l)(w:World)(hd:SlR bk 5 w w.heap.size v l) :
 Calls prog 200 #[.agg #[.string a,v]] w λe w'=>(∃ bv,e = .returned (.agg #[.string a,v,bv])/\SlR RTx 1 w' w'.heap.size bv (Np.dC ⟨a.data.toList,l⟩))/\Below w.heap.size w w':=by
 obtain⟨B,DQ⟩:∃ B,Np.dC ⟨a.data.toList,l⟩=B:=⟨_,rfl⟩;rw[DQ];have kp:=jq DQ;have eX:Hid (B.length=l.length):=jq (by rw[<-DQ];exact Np.s6 _);clear DQ;have HV:=jq hv;have HS:=jq hs;have HD:=jq hd;obtain⟨A,c,rfl,bD,bL⟩:=al hd;clear hv hs hd;have pb:∀ (w:World),(Instr.makeMap 111 none).run prog w = .ok (.map (some w.heap.size)) (w.alloc (.map #[] 0)):=λw=>by
  simp[Instr.makeMap,Result.andThen]
 have HW:Hid (∀ o o' o'',Below w.heap.size w (((w.alloc o).alloc o').alloc o'')):=jq (λo o' o''=>(((vQ _ w).alloc (bQ _) _).alloc (by simp) _).alloc (by simp;omega) _);go_enter func200,ntmps200;go_wp2_with fail;obtain⟨w1,aj⟩:∃ w1,((w.alloc (.cells #[.string a,.slice A l.length c] 263)).alloc (.cells #[.string ⟨#[]⟩,.slice none 0 0,.slice none 0 0] 265)).alloc (.map #[] 0)=w1:=⟨_,rfl⟩;have c0:w1.cell? ⟨w.heap.size,0,none⟩=some (.string a):=by rw[<-aj];simp[go_sem]
 have c1:w1.cell? ⟨w.heap.size,1,none⟩=some (.slice A l.length c):=by rw[<-aj];simp[go_sem]
 have e0:w1.cell? ⟨w.heap.size+1,0,none⟩=some (.string ⟨#[]⟩):=by rw[<-aj];simp[go_sem]
 have e1:w1.cell? ⟨w.heap.size+1,1,none⟩=some (.slice none 0 0):=by rw[<-aj];simp[go_sem]
 have e2:w1.cell? ⟨w.heap.size+1,2,none⟩=some (.slice none 0 0):=by rw[<-aj];simp[go_sem]
 have dG:w1.heap.size=w.heap.size+3:=by rw[<-aj];simp
 have Le:Hid (cI (w.heap.size+1+1) [] w1):=jq (by
  have:=cI.made ((w.alloc (.cells #[.string a,.slice A l.length c] 263)).alloc (.cells #[.string ⟨#[]⟩,.slice none 0 0,.slice none 0 0] 265))
  rw[<-aj];simpa using this)
 have ay:Hid (Below w.heap.size w w1):=jq (by rw[<-aj];exact HW.out _ _ _);have SU:Hid (∀ j,w1.frozen? ⟨w.heap.size+1,j,none⟩=false):=jq (λj=>by rw[<-aj];simp[go_sem]);have HC:=jq (And.intro c0 (And.intro c1 (And.intro e0 (And.intro e1 e2))));rw[aj];clear aj c0 c1 e0 e1 e2;obtain⟨M,hM⟩:∃ M,w.heap.size+1+1=M:=⟨_,rfl⟩;rw[hM] at Le |-;go_loopw [18] (λi wr=>LayA M w1 a.data.toList l i wr) (λi _=>l.length - (intOf i).toNat)
 case atStart=>exact⟨0,jQ _,rfl,jq (vQ _ _),Le⟩
 case round=>
  obtain⟨k,hk,rfl,HB,HM⟩:=hrel;have ap:=HB.out.size;obtain⟨c0,c1,e0,e1,e2⟩:=HC.out;have d0:wr.cell? ⟨w.heap.size,0,none⟩=some (.string a):=by rw[HB.out.cell (by simp;omega)];exact c0
  have d1:wr.cell? ⟨w.heap.size,1,none⟩=some (.slice A l.length c):=by rw[HB.out.cell (by simp;omega)];exact c1
  have pU:=HM.out.lt;have cK:w.heap.size<wr.heap.size:=by omega
  have aB:Hid (Below w.heap.size w wr):=jq (ay.out.trans (HB.out.mono (by omega)));have S2:Hid (∀ j,wr.frozen? ⟨w.heap.size+1,j,none⟩=false):=jq (λj=>(HB.out.frozen (p:=⟨w.heap.size+1,j,none⟩) (by dsimp only;omega)).trans (SU.out j));have zD:Hid (wr.cell? ⟨w.heap.size+1,0,none⟩=some (.string ⟨#[]⟩)/\wr.cell? ⟨w.heap.size+1,1,none⟩=some (.slice none 0 0)/\wr.cell? ⟨w.heap.size+1,2,none⟩=some (.slice none 0 0)):=jq ⟨(HB.out.cell (by dsimp only;omega)).trans e0,(HB.out.cell (by dsimp only;omega)).trans e1,(HB.out.cell (by dsimp only;omega)).trans e2⟩;clear c0 c1 e0 e1 e2;by_cases aa:k<l.length
  ·have ab:=aQ aa;obtain⟨b,o,c',sn,dv,sv,hA,bU,_,aF,cx,aV,aR,f0,f1,f2,f3,f4⟩:=eV (HD.out.keep ba aB.out) ab
   cases hA
   have ht:l.take (k+1)=l.take k ++ [l[k]]:=fQ aa;have Tq:Hid (l[k].set.type=2->(fV a.data.toList (l.take k)).lookup sn.data.toList=none):=jq (λh2=>by
    refine (DE _ _ _).2 λy hy h3 he=>?_;obtain⟨j,hj,rfl⟩:=nQ.1 hy;rw[List.length_take] at hj;have h4:=JX HS.out (aQ (show j<l.length by omega)) ab (by omega);rw[List.getElem_take] at h3 he;have h5:Np.ei l[j].set=Np.ei l[k].set:=by unfold Np.ei;rw[h3,h2,he,aF]
    rw[h5,Np.ze.self] at h4;omega)
   have HT:Hid (∀ kv,(if l[k].set.type=2/\l[k].set.name≠a.data.toList then fV a.data.toList (l.take k) ++ [(l[k].set.name,.bool true)] else fV a.data.toList (l.take k))=kv->fV a.data.toList (l.take (k+1))=kv):=jq (λkv h=>by rw[ht,VF];exact h);generalize hx:l[k]=x at *;clear hx ht;obtain⟨Ad,cd,rfl,_,_⟩:=al aV;obtain⟨As,cs,rfl,_,_⟩:=al aR;have aS:=jq aF;have fB:Hid (∀ o,Below wr.heap.size wr (wr.alloc o)):=jq (λo=>(vQ _ _).alloc (bQ _) _);have bg:Hid (∀ o,Below M w1 (wr.alloc o)):=jq (λo=>HB.out.alloc (by omega) _);clear ab aF aV aR;by_cases h2:x.set.type=2
   ·have ac:(x.set.type == 2)=true:=by simpa using h2
    by_cases hn:x.set.name=a.data.toList
    ·have iS:(!sn.toList == a.toList)=false:=by rw[dQ,dQ,aS.out,hn];simp
     have kw:=jq (HT.out _ (Qc λh=>h.2 hn));clear h2 hn;go_wp2_with fail;go_roundw
     case rel=>exact⟨k+1,by omega,by go_num,jq (bg.out _),jq (by rw[kw.out];exact HM.out.keep (fB.out _) pU)⟩
     case measure=>simp[intOf] <;> omega
    ·have iS:(!sn.toList == a.toList)=true:=by rw[dQ,dQ,aS.out];simpa using hn
     have kw:=jq (HT.out _ (Qb ⟨h2,hn⟩));have jL:=jq (Tq.out h2);clear h2 hn;go_wp2_with (at_mapUpdate;refine RS _ rfl _ _ _ 111 rfl 9 4 underlying111 underlying9 M (fV a.data.toList (l.take k)) rfl (HM.out.keep (fB.out _) pU) sn.data.toList rfl (.bool true) rfl jL.out ?_;intro w5 ma lA;have H5:=jq (And.intro ma lA);clear ma lA);go_roundw
     case rel=>exact⟨k+1,by omega,by go_num,jq ((bg.out _).trans (H5.out.2.below (bQ _))),jq (by rw[kw.out,<-aS.out];exact H5.out.1)⟩
     case measure=>simp[intOf] <;> omega
   ·have ac:(x.set.type == 2)=false:=by simpa using h2
    have kw:=jq (HT.out _ (Qc λh=>h2 h.1));clear h2;go_wp2_with fail;go_roundw
    case rel=>exact⟨k+1,by omega,by go_num,jq (bg.out _),jq (by rw[kw.out];exact HM.out.keep (fB.out _) pU)⟩
    case measure=>simp[intOf] <;> omega
  ·have l7:k=l.length:=by omega
   subst l7;rw[List.take_length] at HM;go_wp2_with fail;have fX:=JJ l.length bM;have HZ:Hid (∀ j,j<l.length->(madeCells #[Value.string ⟨#[]⟩] l.length)[j]?=some (.string ⟨#[]⟩)):=jq (λj hj=>JI _ _ hj);generalize madeCells #[Value.string ⟨#[]⟩] l.length=Z at fX HZ;have CQ:=jq (And.intro d0 d1);have Dc:Hid (∀ (Bl Bs:Nat) (w5:World),Below wr.heap.size wr w5->M<Bl->M<Bs->Bl≠Bs->Bl<w5.heap.size->Bs<w5.heap.size->w5.cell? ⟨Bl,0,none⟩=some (.string a)->w5.cell? ⟨Bl,1,none⟩=some (.slice A l.length c)->w5.cell? ⟨Bl,2,none⟩=some (.slice (some ⟨Bs,0,none⟩) l.length l.length)->(∀ j,j<l.length->w5.cell? ⟨Bs,j,none⟩=some (.string ⟨#[]⟩))->(∀ j,w5.frozen? ⟨Bs,j,none⟩=false)->
    LayB w.heap.size M Bl Bs/\LayK w M Bl Bs a (.slice A l.length c) (.slice (some ⟨Bs,0,none⟩) l.length l.length) (fV a.data.toList l) w5 (List.replicate l.length [])):=jq (λBl Bs w5 hb h1 h2 h3 h4 h5 k0 k1 k2 hz tq=>by
    refine⟨⟨by omega,h1,h2,h3⟩,aB.out.trans (hb.mono (by omega)),(hb.cell (by dsimp only;omega)).trans CQ.out.1,(hb.cell (by dsimp only;omega)).trans CQ.out.2,(hb.cell (by dsimp only;omega)).trans zD.out.1,(hb.cell (by dsimp only;omega)).trans zD.out.2.1,(hb.cell (by dsimp only;omega)).trans zD.out.2.2,k0,k1,k2,HM.out.keep hb pU,λj x hx=>?_,h4,h5,λj=>(hb.frozen (by dsimp only;omega)).trans (S2.out j)⟩;rw[List.getElem?_replicate] at hx;split at hx
    ·rename_i hj
     cases hx
     exact⟨⟨#[]⟩,rfl,by decide,hz j hj,tq j⟩
    ·cases hx)
   go_region
   ·obtain⟨w5,aP⟩:∃ w5,((wr.alloc (.cells Z 9)).alloc (.cells #[.string a,.slice A l.length c,.slice (some ⟨wr.heap.size,0,none⟩) l.length l.length] 265)).drew=w5:=⟨_,rfl⟩;have aC:Below wr.heap.size wr w5:=by rw[<-aP];exact (((vQ _ _).alloc (bQ _) _).alloc (by simp) _).drew
    have hp:=Dc.out (wr.heap.size+1) wr.heap.size w5 aC (by omega) (by omega) (by omega) (by rw[<-aP];simp) (by rw[<-aP];simp;omega) (by rw[<-aP];simp[go_sem]) (by rw[<-aP];simp[go_sem]) (by rw[<-aP];simp[go_sem]) (λj hj=>by rw[<-aP];simp[go_sem];exact HZ.out j hj) (λj=>by rw[<-aP];simp[go_sem]);rw[aP];obtain⟨AS,AT⟩:=hp;have jg:=jq AS;have kZ:=jq AT;clear aP aC AS AT fX Dc HZ zD CQ HB aB d0 d1;generalize wr.heap.size+1=X1 at *;generalize wr.heap.size=X0 at *;have c50:=kZ.out.b0;have c51:=kZ.out.b1;go_wp2_with fail;clear c50 c51;go_loopw [7,51] (λvc i wr=>L5 w M X1 X0 a (.slice A l.length c) (.slice (some ⟨X0,0,none⟩) l.length l.length) (fV a.data.toList l) B (Np.cu ⟨a.data.toList,l⟩) l vc i wr) (λ_ i _=>l.length - (intOf i).toNat)
    case atStart=>exact⟨0,⟨#[]⟩,jQ _,rfl,rfl,by decide,jq kZ.out,jq (.inl rfl),jq (by rw[<-kp.out];rfl)⟩
    case round=>
     obtain⟨k,sc,hk,rfl,rfl,n7,HK,uM,HE⟩:=hrel;have l6:=HK.out.l2;have bC:=HK.out.blt;have kF:=HK.out.slt;have pU:=HK.out.map.lt;have fL:=HK.out.below.size;by_cases aa:k<l.length
     ·have ab:=aQ aa;obtain⟨b,o,c',sn,dv,sv,hA,bU,_,aF,cx,aV,aR,f0,f1,f2,f3,f4⟩:=eV (HD.out.keep ba HK.out.below) ab
      cases hA
      have gN:Hid (Np.aG sn.data.toList=true):=jq (by rw[aF];exact HV.out _ (List.getElem_mem aa));have cN:Hid (B[k]?=some (Np.dg (Np.cu ⟨a.data.toList,l⟩) sc.data.toList sn.data.toList)/\B.drop (k+1)=Np.nK (Np.cu ⟨a.data.toList,l⟩) (Np.dg (Np.cu ⟨a.data.toList,l⟩) sc.data.toList sn.data.toList) (l.drop (k+1))):=jq (by
       have h1:=HE.out;rw[sQ aa,Np.nK,<-aF] at h1;refine⟨?_,?_⟩
       ·have:=List.getElem?_drop (xs:=B) (i:=k) (j:=0)
        rw[h1,Nat.add_zero] at this;exact this.symm
       ·have:=Qd (List.drop 1) h1
        rw[List.drop_drop] at this;simpa using this)
      obtain⟨s0,_,_,gS,kH⟩:=HK.out.row k [] (by
       rw[oQ (by rw[List.length_take];omega),List.length_take,eX.out,show k - min k l.length=0 by omega,List.getElem?_replicate,Qb (by omega)])
      have ku:Hid (∀ (wx:World) (s:ByteArray),Below wr.heap.size wr wx->s.size<=140737488355328->s.data.toList=Np.dg (Np.cu ⟨a.data.toList,l⟩) sc.data.toList sn.data.toList->LayK w M X1 X0 a (.slice (some ⟨b,o,none⟩) l.length c) (.slice (some ⟨X0,0,none⟩) l.length l.length) (fV a.data.toList l) (wx.setCell ⟨X0,k,none⟩ (.string s)) (B.take (k+1)++List.replicate (l.length - (k+1)) [])):=jq (λwx s hb ap hs=>by
       rw[<-QT eX.out cN.out.1,<-hs];exact (HK.out.keep jg.out hb).store jg.out (by rw[List.length_append,List.length_take,List.length_replicate,eX.out];omega) s ap)
      have Gy:=jq HK.out.map;have fB:Hid (∀ o,Below wr.heap.size wr (wr.alloc o)):=jq (λo=>(vQ _ _).alloc (bQ _) _);generalize hx:l[k]=x at *;clear hx ab;obtain⟨Ad,cd,rfl,_,_⟩:=al aV;obtain⟨As,cs,rfl,_,_⟩:=al aR;clear aF aV aR;have bX:(0:Int)<=(k:Int):=by omega
      have bW:(k:Int)<(l.length:Int):=by omega
      obtain⟨cb,gi⟩:∃ cb,Np.cu ⟨a.data.toList,l⟩ sn.data.toList=cb:=⟨_,rfl⟩;have kV:=jq gi;have gY:Hid (((fV a.data.toList l).lookup sn.data.toList).getD (.bool false) = .bool cb):=jq (by rw[<-gi];exact (DE _ _ l).1);clear gi;have uz:Hid (∀ wx,Below wr.heap.size wr wx->Sem.run prog (Instr.lookup 111 (.map (some M)) (.string sn) false) wx = .ok (.bool cb) wx):=jq (λwx hb=>by
       have:=Fc (P:=prog) wx 111 9 4 underlying111 underlying9 M (fV a.data.toList l) (Gy.out.keep hb pU) sn.data.toList (.bool false) (by kernel_rfl)
       rw[gY.out] at this;exact this)
      by_cases hce:sc.data.toList = []
      ·obtain rfl:sc=⟨#[]⟩:=lH hce;have eZ:Hid (cb=true->sn.data.toList=Np.dg (Np.cu ⟨a.data.toList,l⟩) [] sn.data.toList):=jq (λh=>by
        unfold Np.dg;rw[kV.out,h];simp)
       have jh:Hid (cb=false->[]=Np.dg (Np.cu ⟨a.data.toList,l⟩) [] sn.data.toList):=jq (λh=>by
        unfold Np.dg;rw[kV.out,h];simp)
       clear hce
       cases cb with
       | true=>
        have fi:∀ o,Sem.run prog (Instr.lookup 111 (.map (some M)) (.string sn) false) (wr.alloc o) = .ok (.bool true) (wr.alloc o):=λo=>uz.out _ (fB.out o);go_wp2_with fail;go_roundw
        case rel=>exact⟨k+1,sn,by omega,by go_num,rfl,cx,jq ((ku.out wr sn (vQ _ _) cx (eZ.out (by simp))).keep jg.out ((vQ _ _).alloc (bQ _) _)),jq (.inr gN.out),jq (by rw[eZ.out (by simp)];exact cN.out.2)⟩
        case measure=>simp[intOf] <;> omega
       | false=>
        have fi:∀ o,Sem.run prog (Instr.lookup 111 (.map (some M)) (.string sn) false) (wr.alloc o) = .ok (.bool false) (wr.alloc o):=λo=>uz.out _ (fB.out o);go_wp2_with fail;go_roundw
        case rel=>exact⟨k+1,⟨#[]⟩,by omega,by go_num,rfl,by decide,jq ((ku.out wr ⟨#[]⟩ (vQ _ _) (by decide) (jh.out (by simp))).keep jg.out ((vQ _ _).alloc (bQ _) _)),jq (.inl rfl),jq (by rw[show (⟨#[]⟩:ByteArray).data.toList = [] from rfl,jh.out (by simp)];exact cN.out.2)⟩
        case measure=>simp[intOf] <;> omega
      ·have Yl:(!sc.toList == [])=true:=by rw[dQ];simpa using hce
       have yx:(sc.toList == [])=false:=by rw[dQ];simpa using hce
       have jO:Hid (Np.aG sc.data.toList=true):=jq (uM.out.resolve_left hce);have ld:=jq hce;have WK:M<wr.heap.size:=pU;clear hce;go_wp2_with fail;refine (J9 sn sc cx n7 _ gN.out jO.out).mono ?_;rintro e w2 ⟨rfl,ac⟩;have ak:=jq ((fB.out _).trans (ac.mono (by simp)));have dF:w2.cell? ⟨X1,2,none⟩=some (.slice (some ⟨X0,0,none⟩) l.length l.length):=(ak.out.cell (by dsimp only;omega)).trans l6;have gG:w2.cell? ⟨X0,k,none⟩=some (.string s0):=(ak.out.cell (by dsimp only;omega)).trans gS;have aM:=ak.out.size;have XJ:w2.frozen? ⟨X0,k,none⟩=false:=(ak.out.frozen (by dsimp only;omega)).trans kH;clear ac l6 gS kH
       cases dY:Np.bq sn.data.toList sc.data.toList with
       | true=>
        have eZ:Hid (sc.data.toList=Np.dg (Np.cu ⟨a.data.toList,l⟩) sc.data.toList sn.data.toList):=jq (by
         unfold Np.dg;simp[ld.out,dY])
        clear dY;go_wp2_with fail;go_roundw
        case rel=>exact⟨k+1,sc,by omega,by go_num,rfl,n7,jq (ku.out _ sc ak.out n7 eZ.out),jq (.inr jO.out),jq (by rw[eZ.out];exact cN.out.2)⟩
        case measure=>simp[intOf] <;> omega
       | false=>
        have eZ:Hid (cb=true->sn.data.toList=Np.dg (Np.cu ⟨a.data.toList,l⟩) sc.data.toList sn.data.toList):=jq (λh=>by
         unfold Np.dg;rw[kV.out,h];simp[dY,ld.out])
        have jh:Hid (cb=false->[]=Np.dg (Np.cu ⟨a.data.toList,l⟩) sc.data.toList sn.data.toList):=jq (λh=>by
         unfold Np.dg;rw[kV.out,h];simp[dY,ld.out])
        clear dY;have fi:=uz.out w2 ak.out
        cases cb with
        | true=>
         go_wp2_with fail;go_roundw
         case rel=>exact⟨k+1,sn,by omega,by go_num,rfl,cx,jq (ku.out _ sn ak.out cx (eZ.out (by simp))),jq (.inr gN.out),jq (by rw[eZ.out (by simp)];exact cN.out.2)⟩
         case measure=>simp[intOf] <;> omega
        | false=>
         go_wp2_with fail;go_roundw
         case rel=>exact⟨k+1,⟨#[]⟩,by omega,by go_num,rfl,by decide,jq (ku.out _ ⟨#[]⟩ ak.out (by decide) (jh.out (by simp))),jq (.inl rfl),jq (by rw[show (⟨#[]⟩:ByteArray).data.toList = [] from rfl,jh.out (by simp)];exact cN.out.2)⟩
         case measure=>simp[intOf] <;> omega
     ·have BH:k=l.length:=by omega
      have lM:Hid (B.take k++List.replicate (l.length - k) []=B):=jq (by rw[BH,Nat.sub_self,List.replicate_zero,List.append_nil,kQ (by rw[eX.out];exact bQ _)]);clear BH;have g0:=HK.out.l0;have g1:=HK.out.l1;have r0:=HK.out.r0;have r1:=HK.out.r1;have r2:=HK.out.r2;have rf0:=HK.out.rf 0;have rf1:=HK.out.rf 1;have rf2:=HK.out.rf 2;go_wp2_with fail;obtain⟨w6,bN⟩:∃ w6,((wr.setCell ⟨w.heap.size+1,0,none⟩ (.string a)).setCell ⟨w.heap.size+1,1,none⟩ (.slice A l.length c)).setCell ⟨w.heap.size+1,2,none⟩ (.slice (some ⟨X0,0,none⟩) l.length l.length)=w6:=⟨_,rfl⟩;have q0:w6.cell? ⟨w.heap.size+1,0,none⟩=some (.string a):=by rw[<-bN];simp[go_sem,r0]
      have q1:w6.cell? ⟨w.heap.size+1,1,none⟩=some (.slice A l.length c):=by rw[<-bN];simp[go_sem,r1]
      have q2:w6.cell? ⟨w.heap.size+1,2,none⟩=some (.slice (some ⟨X0,0,none⟩) l.length l.length):=by rw[<-bN];simp[go_sem,r2]
      have h1:=jg.out.map;have h2:=jg.out.row;have dh:Hid (Below w.heap.size w w6):=jq (by rw[<-bN];exact ((HK.out.below.setCell (by simp) _).setCell (by simp) _).setCell (by simp) _);have GZ:Hid (SlR RTx 1 w6 w6.heap.size (.slice (some ⟨X0,0,none⟩) l.length l.length) B):=jq (by
       have h3:=HK.out.row;rw[lM.out] at h3;have h4:=((h3.other (p:=⟨w.heap.size+1,0,none⟩) (by simp;omega) (.string a)).other (p:=⟨w.heap.size+1,1,none⟩) (by simp;omega) (.slice A l.length c)).other (p:=⟨w.heap.size+1,2,none⟩) (by simp;omega) (.slice (some ⟨X0,0,none⟩) l.length l.length);rw[bN] at h4;have h5:=h4.slr (by rw[<-bN];simp;omega) (by rw[eX.out];omega);rw[eX.out] at h5;exact h5)
      rw[bN];clear bN r0 r1 r2 rf0 rf1 rf2 g0 g1 l6;refine bodyPost_ret (v:=.agg #[.string a,.slice A l.length c,.slice (some ⟨X0,0,none⟩) l.length l.length]) ?_ rfl ⟨⟨_,rfl,GZ.out⟩,dh.out⟩;simp[results,results200,go_sem,q0,q1,q2]
   ·obtain⟨w5,aP⟩:∃ w5,((wr.alloc (.cells #[.string a,.slice A l.length c,.slice (some ⟨wr.heap.size+1,0,none⟩) l.length l.length] 265)).alloc (.cells Z 9)).drew=w5:=⟨_,rfl⟩;have aC:Below wr.heap.size wr w5:=by rw[<-aP];exact (((vQ _ _).alloc (bQ _) _).alloc (by simp) _).drew
    have hp:=Dc.out wr.heap.size (wr.heap.size+1) w5 aC (by omega) (by omega) (by omega) (by rw[<-aP];simp;omega) (by rw[<-aP];simp) (by rw[<-aP];simp[go_sem]) (by rw[<-aP];simp[go_sem]) (by rw[<-aP];simp[go_sem]) (λj hj=>by rw[<-aP];simp[go_sem];exact HZ.out j hj) (λj=>by rw[<-aP];simp[go_sem]);rw[aP];obtain⟨AS,AT⟩:=hp;have jg:=jq AS;have kZ:=jq AT;clear aP aC AS AT fX Dc HZ zD CQ HB aB d0 d1;generalize wr.heap.size+1=X0 at *;generalize wr.heap.size=X1 at *;have c50:=kZ.out.b0;have c51:=kZ.out.b1;go_wp2_with fail;clear c50 c51;go_loopw [7,51] (λvc i wr=>L5 w M X1 X0 a (.slice A l.length c) (.slice (some ⟨X0,0,none⟩) l.length l.length) (fV a.data.toList l) B (Np.cu ⟨a.data.toList,l⟩) l vc i wr) (λ_ i _=>l.length - (intOf i).toNat)
    case atStart=>exact⟨0,⟨#[]⟩,jQ _,rfl,rfl,by decide,jq kZ.out,jq (.inl rfl),jq (by rw[<-kp.out];rfl)⟩
    case round=>
     obtain⟨k,sc,hk,rfl,rfl,n7,HK,uM,HE⟩:=hrel;have l6:=HK.out.l2;have bC:=HK.out.blt;have kF:=HK.out.slt;have pU:=HK.out.map.lt;have fL:=HK.out.below.size;by_cases aa:k<l.length
     ·have ab:=aQ aa;obtain⟨b,o,c',sn,dv,sv,hA,bU,_,aF,cx,aV,aR,f0,f1,f2,f3,f4⟩:=eV (HD.out.keep ba HK.out.below) ab
      cases hA
      have gN:Hid (Np.aG sn.data.toList=true):=jq (by rw[aF];exact HV.out _ (List.getElem_mem aa));have cN:Hid (B[k]?=some (Np.dg (Np.cu ⟨a.data.toList,l⟩) sc.data.toList sn.data.toList)/\B.drop (k+1)=Np.nK (Np.cu ⟨a.data.toList,l⟩) (Np.dg (Np.cu ⟨a.data.toList,l⟩) sc.data.toList sn.data.toList) (l.drop (k+1))):=jq (by
       have h1:=HE.out;rw[sQ aa,Np.nK,<-aF] at h1;refine⟨?_,?_⟩
       ·have:=List.getElem?_drop (xs:=B) (i:=k) (j:=0)
        rw[h1,Nat.add_zero] at this;exact this.symm
       ·have:=Qd (List.drop 1) h1
        rw[List.drop_drop] at this;simpa using this)
      obtain⟨s0,_,_,gS,kH⟩:=HK.out.row k [] (by
       rw[oQ (by rw[List.length_take];omega),List.length_take,eX.out,show k - min k l.length=0 by omega,List.getElem?_replicate,Qb (by omega)])
      have ku:Hid (∀ (wx:World) (s:ByteArray),Below wr.heap.size wr wx->s.size<=140737488355328->s.data.toList=Np.dg (Np.cu ⟨a.data.toList,l⟩) sc.data.toList sn.data.toList->LayK w M X1 X0 a (.slice (some ⟨b,o,none⟩) l.length c) (.slice (some ⟨X0,0,none⟩) l.length l.length) (fV a.data.toList l) (wx.setCell ⟨X0,k,none⟩ (.string s)) (B.take (k+1)++List.replicate (l.length - (k+1)) [])):=jq (λwx s hb ap hs=>by
       rw[<-QT eX.out cN.out.1,<-hs];exact (HK.out.keep jg.out hb).store jg.out (by rw[List.length_append,List.length_take,List.length_replicate,eX.out];omega) s ap)
      have Gy:=jq HK.out.map;have fB:Hid (∀ o,Below wr.heap.size wr (wr.alloc o)):=jq (λo=>(vQ _ _).alloc (bQ _) _);generalize hx:l[k]=x at *;clear hx ab;obtain⟨Ad,cd,rfl,_,_⟩:=al aV;obtain⟨As,cs,rfl,_,_⟩:=al aR;clear aF aV aR;have bX:(0:Int)<=(k:Int):=by omega
      have bW:(k:Int)<(l.length:Int):=by omega
      obtain⟨cb,gi⟩:∃ cb,Np.cu ⟨a.data.toList,l⟩ sn.data.toList=cb:=⟨_,rfl⟩;have kV:=jq gi;have gY:Hid (((fV a.data.toList l).lookup sn.data.toList).getD (.bool false) = .bool cb):=jq (by rw[<-gi];exact (DE _ _ l).1);clear gi;have uz:Hid (∀ wx,Below wr.heap.size wr wx->Sem.run prog (Instr.lookup 111 (.map (some M)) (.string sn) false) wx = .ok (.bool cb) wx):=jq (λwx hb=>by
       have:=Fc (P:=prog) wx 111 9 4 underlying111 underlying9 M (fV a.data.toList l) (Gy.out.keep hb pU) sn.data.toList (.bool false) (by kernel_rfl)
       rw[gY.out] at this;exact this)
      by_cases hce:sc.data.toList = []
      ·obtain rfl:sc=⟨#[]⟩:=lH hce;have eZ:Hid (cb=true->sn.data.toList=Np.dg (Np.cu ⟨a.data.toList,l⟩) [] sn.data.toList):=jq (λh=>by
        unfold Np.dg;rw[kV.out,h];simp)
       have jh:Hid (cb=false->[]=Np.dg (Np.cu ⟨a.data.toList,l⟩) [] sn.data.toList):=jq (λh=>by
        unfold Np.dg;rw[kV.out,h];simp)
       clear hce
       cases cb with
       | true=>
        have fi:∀ o,Sem.run prog (Instr.lookup 111 (.map (some M)) (.string sn) false) (wr.alloc o) = .ok (.bool true) (wr.alloc o):=λo=>uz.out _ (fB.out o);go_wp2_with fail;go_roundw
        case rel=>exact⟨k+1,sn,by omega,by go_num,rfl,cx,jq ((ku.out wr sn (vQ _ _) cx (eZ.out (by simp))).keep jg.out ((vQ _ _).alloc (bQ _) _)),jq (.inr gN.out),jq (by rw[eZ.out (by simp)];exact cN.out.2)⟩
        case measure=>simp[intOf] <;> omega
       | false=>
        have fi:∀ o,Sem.run prog (Instr.lookup 111 (.map (some M)) (.string sn) false) (wr.alloc o) = .ok (.bool false) (wr.alloc o):=λo=>uz.out _ (fB.out o);go_wp2_with fail;go_roundw
        case rel=>exact⟨k+1,⟨#[]⟩,by omega,by go_num,rfl,by decide,jq ((ku.out wr ⟨#[]⟩ (vQ _ _) (by decide) (jh.out (by simp))).keep jg.out ((vQ _ _).alloc (bQ _) _)),jq (.inl rfl),jq (by rw[show (⟨#[]⟩:ByteArray).data.toList = [] from rfl,jh.out (by simp)];exact cN.out.2)⟩
        case measure=>simp[intOf] <;> omega
      ·have Yl:(!sc.toList == [])=true:=by rw[dQ];simpa using hce
       have yx:(sc.toList == [])=false:=by rw[dQ];simpa using hce
       have jO:Hid (Np.aG sc.data.toList=true):=jq (uM.out.resolve_left hce);have ld:=jq hce;have WK:M<wr.heap.size:=pU;clear hce;go_wp2_with fail;refine (J9 sn sc cx n7 _ gN.out jO.out).mono ?_;rintro e w2 ⟨rfl,ac⟩;have ak:=jq ((fB.out _).trans (ac.mono (by simp)));have dF:w2.cell? ⟨X1,2,none⟩=some (.slice (some ⟨X0,0,none⟩) l.length l.length):=(ak.out.cell (by dsimp only;omega)).trans l6;have gG:w2.cell? ⟨X0,k,none⟩=some (.string s0):=(ak.out.cell (by dsimp only;omega)).trans gS;have aM:=ak.out.size;have XJ:w2.frozen? ⟨X0,k,none⟩=false:=(ak.out.frozen (by dsimp only;omega)).trans kH;clear ac l6 gS kH
       cases dY:Np.bq sn.data.toList sc.data.toList with
       | true=>
        have eZ:Hid (sc.data.toList=Np.dg (Np.cu ⟨a.data.toList,l⟩) sc.data.toList sn.data.toList):=jq (by
         unfold Np.dg;simp[ld.out,dY])
        clear dY;go_wp2_with fail;go_roundw
        case rel=>exact⟨k+1,sc,by omega,by go_num,rfl,n7,jq (ku.out _ sc ak.out n7 eZ.out),jq (.inr jO.out),jq (by rw[eZ.out];exact cN.out.2)⟩
        case measure=>simp[intOf] <;> omega
       | false=>
        have eZ:Hid (cb=true->sn.data.toList=Np.dg (Np.cu ⟨a.data.toList,l⟩) sc.data.toList sn.data.toList):=jq (λh=>by
         unfold Np.dg;rw[kV.out,h];simp[dY,ld.out])
        have jh:Hid (cb=false->[]=Np.dg (Np.cu ⟨a.data.toList,l⟩) sc.data.toList sn.data.toList):=jq (λh=>by
         unfold Np.dg;rw[kV.out,h];simp[dY,ld.out])
        clear dY;have fi:=uz.out w2 ak.out
        cases cb with
        | true=>
         go_wp2_with fail;go_roundw
         case rel=>exact⟨k+1,sn,by omega,by go_num,rfl,cx,jq (ku.out _ sn ak.out cx (eZ.out (by simp))),jq (.inr gN.out),jq (by rw[eZ.out (by simp)];exact cN.out.2)⟩
         case measure=>simp[intOf] <;> omega
        | false=>
         go_wp2_with fail;go_roundw
         case rel=>exact⟨k+1,⟨#[]⟩,by omega,by go_num,rfl,by decide,jq (ku.out _ ⟨#[]⟩ ak.out (by decide) (jh.out (by simp))),jq (.inl rfl),jq (by rw[show (⟨#[]⟩:ByteArray).data.toList = [] from rfl,jh.out (by simp)];exact cN.out.2)⟩
         case measure=>simp[intOf] <;> omega
     ·have BH:k=l.length:=by omega
      have lM:Hid (B.take k++List.replicate (l.length - k) []=B):=jq (by rw[BH,Nat.sub_self,List.replicate_zero,List.append_nil,kQ (by rw[eX.out];exact bQ _)]);clear BH;have g0:=HK.out.l0;have g1:=HK.out.l1;have r0:=HK.out.r0;have r1:=HK.out.r1;have r2:=HK.out.r2;have rf0:=HK.out.rf 0;have rf1:=HK.out.rf 1;have rf2:=HK.out.rf 2;go_wp2_with fail;obtain⟨w6,bN⟩:∃ w6,((wr.setCell ⟨w.heap.size+1,0,none⟩ (.string a)).setCell ⟨w.heap.size+1,1,none⟩ (.slice A l.length c)).setCell ⟨w.heap.size+1,2,none⟩ (.slice (some ⟨X0,0,none⟩) l.length l.length)=w6:=⟨_,rfl⟩;have q0:w6.cell? ⟨w.heap.size+1,0,none⟩=some (.string a):=by rw[<-bN];simp[go_sem,r0]
      have q1:w6.cell? ⟨w.heap.size+1,1,none⟩=some (.slice A l.length c):=by rw[<-bN];simp[go_sem,r1]
      have q2:w6.cell? ⟨w.heap.size+1,2,none⟩=some (.slice (some ⟨X0,0,none⟩) l.length l.length):=by rw[<-bN];simp[go_sem,r2]
      have h1:=jg.out.map;have h2:=jg.out.row;have dh:Hid (Below w.heap.size w w6):=jq (by rw[<-bN];exact ((HK.out.below.setCell (by simp) _).setCell (by simp) _).setCell (by simp) _);have GZ:Hid (SlR RTx 1 w6 w6.heap.size (.slice (some ⟨X0,0,none⟩) l.length l.length) B):=jq (by
       have h3:=HK.out.row;rw[lM.out] at h3;have h4:=((h3.other (p:=⟨w.heap.size+1,0,none⟩) (by simp;omega) (.string a)).other (p:=⟨w.heap.size+1,1,none⟩) (by simp;omega) (.slice A l.length c)).other (p:=⟨w.heap.size+1,2,none⟩) (by simp;omega) (.slice (some ⟨X0,0,none⟩) l.length l.length);rw[bN] at h4;have h5:=h4.slr (by rw[<-bN];simp;omega) (by rw[eX.out];omega);rw[eX.out] at h5;exact h5)
      rw[bN];clear bN r0 r1 r2 rf0 rf1 rf2 g0 g1 l6;refine bodyPost_ret (v:=.agg #[.string a,.slice A l.length c,.slice (some ⟨X0,0,none⟩) l.length l.length]) ?_ rfl ⟨⟨_,rfl,GZ.out⟩,dh.out⟩;simp[results,results200,go_sem,q0,q1,q2]
theorem qu{w:World}{B n c:Nat}{A:Option Addr}{xs:List (List UInt8)}(h:SlR RTx 1 w B (.slice A n c) xs){k:Nat}{x:List UInt8}(hx:xs[k]?=some x):∃ (b o:Nat) (s:ByteArray),A=some ⟨b,o,none⟩/\b<B/\s.data.toList=x/\s.size<=140737488355328/\w.cell? ⟨b,o+k,none⟩=some (.string s):=by
 obtain⟨A',c',hv,hc,_,he⟩:=h;simp only[Value.slice.injEq] at hv;obtain⟨rfl,_,_⟩:=hv;obtain⟨b,o,e,rfl,hb,_,hce,s,h1,h2,rfl⟩:=he k x hx;exact⟨b,o,s,rfl,hb,h1,h2,by have:=hce 0 _ rfl;simpa using this⟩
def Np.pt(l:List Np.Signed)(B:List (List UInt8)):Prop:=∀ (i:Nat) (x:Np.Signed) (b:List UInt8),l[i]?=some x->B[i]?=some b->Np.jI x.set b
def Np.Aj(l:List Np.Signed)(B:List (List UInt8)):Prop:=∀ (i:Nat) (x:Np.Signed) (b:List UInt8),l[i]?=some x->B[i]?=some b->b≠[]->x.set.type=2\/x.set.type=1->x.sigs = []
theorem MK{x:Np.DSet}{b:List UInt8}(hb:b = []):Np.jI x b↔x.type≠6:=by
 subst hb;exact⟨λh=>h.1 rfl,λh=>⟨λ_=>h,λh2=>absurd rfl h2,λh2=>absurd rfl h2⟩⟩
theorem ML{x:Np.DSet}{b:List UInt8}(hb:b≠[])(he:b=x.name):Np.jI x b↔(x.type=2\/x.type=6\/x.type=8\/x.type=1):=
 ⟨λh=>h.2.1 hb he,λh=>⟨λh2=>absurd h2 hb,λ_ _=>h,λ_ h2=>absurd he h2⟩⟩
theorem MM{x:Np.DSet}{b:List UInt8}(hb:b≠[])(he:b≠x.name):Np.jI x b↔x.type=1:=
 ⟨λh=>h.2.2 hb he,λh=>⟨λh2=>absurd h2 hb,λ_ h2=>absurd h2 he,λ_ _=>h⟩⟩
theorem VJ(a:ByteArray)(v bv:Value)(l:List Np.Signed)(B:List (List UInt8))(jn:B.length=l.length)(w:World)(hd:SlR bk 5 w w.heap.size v l)(ix:SlR RTx 1 w w.heap.size bv B) :
 Calls prog 202 #[.agg #[.string a,v,bv]] w λe w'=>e = .returned (.bool (Np.yes (Np.pt l B)))/\Below w.heap.size w w':=by
 obtain⟨r,hr⟩:∃ r,Np.yes (Np.pt l B)=r:=⟨_,rfl⟩;rw[hr];have HR:=jq hr;have eX:=jq jn;have HD:=jq hd;have lJ:=jq ix;obtain⟨A,c,rfl,bD,bL⟩:=al hd;obtain⟨A2,c2,rfl,ew,dF⟩:=al ix;rw[jn] at ew dF lJ |-;clear hr hd ix jn;have HW:Hid (∀ o,Below w.heap.size w (w.alloc o)):=jq (λo=>(vQ _ w).alloc (bQ _) _);go_enter func202,ntmps202;go_wp2_with fail;obtain⟨w1,aj⟩:∃ w1,w.alloc (.cells #[.string a,.slice A l.length c,.slice A2 l.length c2] 265)=w1:=⟨_,rfl⟩;have c2':w1.cell? ⟨w.heap.size,2,none⟩=some (.slice A2 l.length c2):=by rw[<-aj];simp[go_sem]
 have dG:w.heap.size<w1.heap.size:=by rw[<-aj];simp
 have ay:Hid (Below w.heap.size w w1):=jq (by rw[<-aj];exact HW.out _);rw[aj];clear aj;go_loopw [11] (λi wr=>∃ k:Nat,k<=l.length/\i = .int .i64 k/\Hid (Below w1.heap.size w1 wr)/\Hid (∀ j x b,j<k->l[j]?=some x->B[j]?=some b->Np.jI x.set b)) (λi _=>l.length - (intOf i).toNat)
 case atStart=>exact⟨0,jQ _,rfl,jq (vQ _ _),jq (λj x b hj=>by omega)⟩
 case round=>
  obtain⟨k,hk,rfl,HB,HA⟩:=hrel;have ap:=HB.out.size;have aB:=jq (ay.out.trans (HB.out.mono (by omega)));by_cases aa:k<l.length
  ·obtain⟨x,ab⟩:∃ x,l[k]?=some x:=⟨_,aQ aa⟩;obtain⟨bb,dL⟩:∃ bb,B[k]?=some bb:=⟨_,aQ (by rw[eX.out];omega)⟩;obtain⟨b,o,c',sn,dv,sv,hA,bU,_,aF,cx,aV,aR,e0,e1,e2,e3,e4⟩:=eV (HD.out.keep ba aB.out) ab
   cases hA
   obtain⟨b2,o2,sb,rfl,yh,pi,Jj,g0⟩:=qu (lJ.out.keep nr aB.out) dL;have HN:Hid (Np.jI x.set bb->∀ j x b,j<k+1->l[j]?=some x->B[j]?=some b->Np.jI x.set b):=jq (λh j x b hj hx hb=>by
    by_cases e:j=k
    ·subst e;rw[ab] at hx;rw[dL] at hb;cases hx;cases hb;exact h
    ·exact HA.out j x b (by omega) hx hb)
   have HF:Hid (¬ Np.jI x.set bb->r=false):=jq (λh=>by
    rw[<-HR.out];exact Np.aN λq=>h (q k _ _ ab dL))
   clear ab dL;obtain⟨Ad,cd,rfl,_,_⟩:=al aV;obtain⟨As,cs,rfl,_,_⟩:=al aR;have hcell:wr.cell? ⟨w.heap.size,2,none⟩=some (.slice (some ⟨b2,o2,none⟩) l.length c2):=(HB.out.cell (by dsimp only;omega)).trans c2';have cK:w.heap.size<wr.heap.size:=by omega
   have aw:b<wr.heap.size:=by omega
   have ac:b2<wr.heap.size:=by omega
   have bg:Hid (∀ o,Below w1.heap.size w1 (wr.alloc o)):=jq (λo=>HB.out.alloc HB.out.size _);have oz:Hid (∀ o,Below w.heap.size w (wr.alloc o)):=jq (λo=>aB.out.alloc (by omega) _);have bX:(0:Int)<=(k:Int):=by omega
   have bW:(k:Int)<(l.length:Int):=by omega
   have aS:=jq aF;have eJ:=jq pi;obtain⟨ty,dX⟩:∃ ty,x.set.type=ty:=⟨_,rfl⟩;have dB:=jq dX;rw[dX] at e1;clear aF pi aV aR dX;by_cases cT:bb = []
   ·obtain rfl:sb=⟨#[]⟩:=lH (by rw[eJ.out,cT]);have bI:=jq (MK (x:=x.set) cT);clear cT;by_cases h6:ty=6
    ·have HX:Hid (r=false):=jq (HF.out λh=>(bI.out.1 h) (dB.out.trans h6));subst h6;go_wp2_with fail;go_ret;exact⟨ag HX.out.symm,oz.out _⟩
    ·have HX:=jq (HN.out (bI.out.2 λh=>h6 (dB.out.symm.trans h)));have h6':(ty == 6)=false:=by simpa using h6
     clear h6;go_wp2_with fail;go_roundw
     case rel=>exact⟨k+1,by omega,by go_num,jq (bg.out _),jq HX.out⟩
     case measure=>simp[intOf] <;> omega
   ·have yx:(sb.toList == [])=false:=by rw[dQ,eJ.out];simpa using cT
    by_cases iS:bb=x.set.name
    ·have Iw:(sb.toList == sn.toList)=true:=by rw[dQ,dQ,eJ.out,aS.out];simpa using iS
     have bI:=jq (ML (x:=x.set) cT iS);clear cT iS;by_cases ht:ty=2\/ty=6\/ty=8\/ty=1
     ·have HX:=jq (HN.out (bI.out.2 (by rw[dB.out];exact ht)));rcases ht with rfl | rfl | rfl | rfl
      all_goals
       go_wp2_with fail;go_roundw
       case rel=>exact⟨k+1,by omega,by go_num,jq (bg.out _),jq HX.out⟩
       case measure=>simp[intOf] <;> omega
     ·have HX:Hid (r=false):=jq (HF.out λh=>ht (by have:=bI.out.1 h;rwa [dB.out] at this));have t1:(ty != 2)=true:=by simp;omega
      have t2:(ty != 6)=true:=by simp;omega
      have t3:(ty != 8)=true:=by simp;omega
      have t4:(ty != 1)=true:=by simp;omega
      clear ht;go_wp2_with fail;go_ret;exact⟨ag HX.out.symm,oz.out _⟩
    ·have Iw:(sb.toList == sn.toList)=false:=by rw[dQ,dQ,eJ.out,aS.out];simpa using iS
     have bI:=jq (MM (x:=x.set) cT iS);clear cT iS;by_cases ht:ty=1
     ·have HX:=jq (HN.out (bI.out.2 (by rw[dB.out];exact ht)));subst ht;go_wp2_with fail;go_roundw
      case rel=>exact⟨k+1,by omega,by go_num,jq (bg.out _),jq HX.out⟩
      case measure=>simp[intOf] <;> omega
     ·have HX:Hid (r=false):=jq (HF.out λh=>ht (by have:=bI.out.1 h;rwa [dB.out] at this));have t4:(ty != 1)=true:=by simpa using ht
      clear ht;go_wp2_with fail;go_ret;exact⟨ag HX.out.symm,oz.out _⟩
  ·go_wp2_with fail;go_ret;refine⟨ag ?_,aB.out⟩;rw[<-HR.out];exact (Np.bO λi x b hx hb=>HA.out i x b (by have:=(cQ.1 hx).1;omega) hx hb).symm
theorem ayY(a:ByteArray)(v bv:Value)(l:List Np.Signed)(B:List (List UInt8))(jn:B.length=l.length)(w:World)(hd:SlR bk 5 w w.heap.size v l)(ix:SlR RTx 1 w w.heap.size bv B) :
 Calls prog 203 #[.agg #[.string a,v,bv]] w λe w'=>e = .returned (.bool (Np.yes (Np.Aj l B)))/\Below w.heap.size w w':=by
 obtain⟨r,hr⟩:∃ r,Np.yes (Np.Aj l B)=r:=⟨_,rfl⟩;rw[hr];have HR:=jq hr;have eX:=jq jn;have HD:=jq hd;have lJ:=jq ix;obtain⟨A,c,rfl,bD,bL⟩:=al hd;obtain⟨A2,c2,rfl,ew,dF⟩:=al ix;rw[jn] at ew dF lJ |-;clear hr hd ix jn;have HW:Hid (∀ o,Below w.heap.size w (w.alloc o)):=jq (λo=>(vQ _ w).alloc (bQ _) _);go_enter func203,ntmps203;go_wp2_with fail;obtain⟨w1,aj⟩:∃ w1,w.alloc (.cells #[.string a,.slice A l.length c,.slice A2 l.length c2] 265)=w1:=⟨_,rfl⟩;have c2':w1.cell? ⟨w.heap.size,2,none⟩=some (.slice A2 l.length c2):=by rw[<-aj];simp[go_sem]
 have dG:w.heap.size<w1.heap.size:=by rw[<-aj];simp
 have ay:Hid (Below w.heap.size w w1):=jq (by rw[<-aj];exact HW.out _);rw[aj];clear aj;go_loopw [11] (λi wr=>∃ k:Nat,k<=l.length/\i = .int .i64 k/\Hid (Below w1.heap.size w1 wr)/\Hid (∀ j x b,j<k->l[j]?=some x->B[j]?=some b->(b≠[]->x.set.type=2\/x.set.type=1->x.sigs = []))) (λi _=>l.length - (intOf i).toNat)
 case atStart=>exact⟨0,jQ _,rfl,jq (vQ _ _),jq (λj x b hj=>by omega)⟩
 case round=>
  obtain⟨k,hk,rfl,HB,HA⟩:=hrel;have ap:=HB.out.size;have aB:=jq (ay.out.trans (HB.out.mono (by omega)));by_cases aa:k<l.length
  ·obtain⟨x,ab⟩:∃ x,l[k]?=some x:=⟨_,aQ aa⟩;obtain⟨bb,dL⟩:∃ bb,B[k]?=some bb:=⟨_,aQ (by rw[eX.out];omega)⟩;obtain⟨b,o,c',sn,dv,sv,hA,bU,_,aF,cx,aV,aR,e0,e1,e2,e3,e4⟩:=eV (HD.out.keep ba aB.out) ab
   cases hA
   obtain⟨b2,o2,sb,rfl,yh,pi,Jj,g0⟩:=qu (lJ.out.keep nr aB.out) dL;have HN:Hid ((bb≠[]->x.set.type=2\/x.set.type=1->x.sigs = [])->∀ j x b,j<k+1->l[j]?=some x->B[j]?=some b->(b≠[]->x.set.type=2\/x.set.type=1->x.sigs = [])):=jq (λh j x b hj hx hb=>by
    by_cases e:j=k
    ·subst e;rw[ab] at hx;rw[dL] at hb;cases hx;cases hb;exact h
    ·exact HA.out j x b (by omega) hx hb)
   have HF:Hid (¬ (bb≠[]->x.set.type=2\/x.set.type=1->x.sigs = [])->r=false):=jq (λh=>by
    rw[<-HR.out];exact Np.aN λq=>h (q k _ _ ab dL))
   clear ab dL;obtain⟨Ad,cd,rfl,_,_⟩:=al aV;obtain⟨As,cs,rfl,_,_⟩:=al aR;have hcell:wr.cell? ⟨w.heap.size,2,none⟩=some (.slice (some ⟨b2,o2,none⟩) l.length c2):=(HB.out.cell (by dsimp only;omega)).trans c2';have cK:w.heap.size<wr.heap.size:=by omega
   have aw:b<wr.heap.size:=by omega
   have ac:b2<wr.heap.size:=by omega
   have bg:Hid (∀ o,Below w1.heap.size w1 (wr.alloc o)):=jq (λo=>HB.out.alloc HB.out.size _);have oz:Hid (∀ o,Below w.heap.size w (wr.alloc o)):=jq (λo=>aB.out.alloc (by omega) _);have bX:(0:Int)<=(k:Int):=by omega
   have bW:(k:Int)<(l.length:Int):=by omega
   have aS:=jq aF;have eJ:=jq pi;obtain⟨ty,dX⟩:∃ ty,x.set.type=ty:=⟨_,rfl⟩;have dB:=jq dX;rw[dX] at e1;clear aF pi aV aR dX;by_cases cT:bb = []
   ·obtain rfl:sb=⟨#[]⟩:=lH (by rw[eJ.out,cT]);have HX:=jq (HN.out (λh=>absurd cT h));clear cT;go_wp2_with fail;go_roundw
    case rel=>exact⟨k+1,by omega,by go_num,jq (bg.out _),jq HX.out⟩
    case measure=>simp[intOf] <;> omega
   ·have yx:(sb.toList == [])=false:=by rw[dQ,eJ.out];simpa using cT
    have uj:=jq cT;clear cT;by_cases ht:ty=2\/ty=1
    ·by_cases tB:x.sigs.length=0
     ·have HX:=jq (HN.out (λ_ _=>rQ tB));rw[tB] at e4;clear tB;rcases ht with rfl | rfl
      all_goals
       go_wp2_with fail;go_roundw
       case rel=>exact⟨k+1,by omega,by go_num,jq (bg.out _),jq HX.out⟩
       case measure=>simp[intOf] <;> omega
     ·have HX:Hid (r=false):=jq (HF.out λh=>tB (by rw[h uj.out (by rw[dB.out];exact ht)];rfl));have Yu:0<x.sigs.length:=by omega
      have a0Q:(0:Int)<(x.sigs.length:Int):=by omega
      clear tB;rcases ht with rfl | rfl
      all_goals
       go_wp2_with fail;go_ret;exact⟨ag HX.out.symm,oz.out _⟩
    ·have HX:=jq (HN.out (λ_ h=>absurd (by rw[dB.out] at h;exact h) ht));have t1:(ty == 2)=false:=by simp;omega
     have t2:(ty == 1)=false:=by simp;omega
     clear ht;go_wp2_with fail;go_roundw
     case rel=>exact⟨k+1,by omega,by go_num,jq (bg.out _),jq HX.out⟩
     case measure=>simp[intOf] <;> omega
  ·go_wp2_with fail;go_ret;refine⟨ag ?_,aB.out⟩;rw[<-HR.out];exact (Np.bO λi x b hx hb=>HA.out i x b (by have:=(cQ.1 hx).1;omega) hx hb).symm
theorem Wg(a:ByteArray)(v:Value)(A2:Option Addr)(n2 c2:Nat)(l:List Np.Signed)(w:World)(hd:SlR bk 5 w w.heap.size v l) :
 Calls prog 204 #[.agg #[.string a,v,.slice A2 n2 c2]] w λe w'=>e = .returned (.bool (Np.yes (∀ x∈l,Np.fT a.data.toList x.sigs)))/\Below w.heap.size w w':=by
 obtain⟨r,hr⟩:∃ r,Np.yes (∀ x∈l,Np.fT a.data.toList x.sigs)=r:=⟨_,rfl⟩;rw[hr];have HR:=jq hr;have HD:=jq hd;obtain⟨A,c,rfl,bD,bL⟩:=al hd;clear hr hd;have HW:Hid (∀ o,Below w.heap.size w (w.alloc o)):=jq (λo=>(vQ _ w).alloc (bQ _) _);go_enter func204,ntmps204;go_wp2_with fail;obtain⟨w1,aj⟩:∃ w1,w.alloc (.cells #[.string a,.slice A l.length c,.slice A2 n2 c2] 265)=w1:=⟨_,rfl⟩;have c2':w1.cell? ⟨w.heap.size,0,none⟩=some (.string a):=by rw[<-aj];simp[go_sem]
 have dG:w.heap.size<w1.heap.size:=by rw[<-aj];simp
 have ay:Hid (Below w.heap.size w w1):=jq (by rw[<-aj];exact HW.out _);rw[aj];clear aj;go_loopw [10] (λi wr=>∃ k:Nat,k<=l.length/\i = .int .i64 k/\Hid (Below w1.heap.size w1 wr)/\Hid (∀ j x,j<k->l[j]?=some x->Np.fT a.data.toList x.sigs)) (λi _=>l.length - (intOf i).toNat)
 case atStart=>exact⟨0,jQ _,rfl,jq (vQ _ _),jq (λj x hj=>by omega)⟩
 case round=>
  obtain⟨k,hk,rfl,HB,HA⟩:=hrel;have ap:=HB.out.size;have aB:=jq (ay.out.trans (HB.out.mono (by omega)));by_cases aa:k<l.length
  ·obtain⟨x,ab⟩:∃ x,l[k]?=some x:=⟨_,aQ aa⟩;obtain⟨b,o,c',sn,dv,sv,hA,bU,_,aF,cx,aV,aR,e0,e1,e2,e3,e4⟩:=eV (HD.out.keep ba aB.out) ab
   cases hA
   have HN:Hid (Np.fT a.data.toList x.sigs->∀ j x,j<k+1->l[j]?=some x->Np.fT a.data.toList x.sigs):=jq (λh j y hj hy=>by
    by_cases e:j=k
    ·subst e;rw[ab] at hy;cases hy;exact h
    ·exact HA.out j y (by omega) hy)
   have HF:Hid (¬ Np.fT a.data.toList x.sigs->r=false):=jq (λh=>by
    rw[<-HR.out];exact Np.aN λq=>h (q x (gQ ab)))
   clear ab;obtain⟨Ad,cd,rfl,_,_⟩:=al aV;obtain⟨As,cs,rfl,_,_⟩:=al aR;have hcell:wr.cell? ⟨w.heap.size,0,none⟩=some (.string a):=(HB.out.cell (by dsimp only;omega)).trans c2';have uK:=jq (aR.more fz (show w.heap.size<=wr.heap.size by omega));have cK:w.heap.size<wr.heap.size:=by omega
   have aw:b<wr.heap.size:=by omega
   have bg:Hid (∀ o,Below w1.heap.size w1 (wr.alloc o)):=jq (λo=>HB.out.alloc HB.out.size _);have oz:Hid (∀ o,Below w.heap.size w (wr.alloc o)):=jq (λo=>aB.out.alloc (by omega) _);have bX:(0:Int)<=(k:Int):=by omega
   have bW:(k:Int)<(l.length:Int):=by omega
   have aS:=jq aF;clear aF aV aR;go_wp2_with fail;refine (Zy a _ x.sigs _ (uK.out.later dH fz ((vQ _ _).alloc (bQ _) _))).mono ?_;rintro e w2 ⟨rfl,hb⟩;have ak:Hid (Below wr.heap.size wr w2):=jq (((vQ _ _).alloc (bQ _) _).trans (hb.mono (by simp)));clear hb
   cases hf:Np.yes (Np.fT a.data.toList x.sigs) with
   | true=>
    have HX:=jq (HN.out (Np.fm.1 hf));clear hf;go_wp2_with fail;go_roundw
    case rel=>exact⟨k+1,by omega,by go_num,jq (HB.out.trans (ak.out.mono HB.out.size)),jq HX.out⟩
    case measure=>simp[intOf] <;> omega
   | false=>
    have HX:=jq (HF.out λh=>by rw[Np.bO h] at hf;cases hf);clear hf;go_wp2_with fail;go_ret;exact⟨ag HX.out.symm,aB.out.trans (ak.out.mono (by omega))⟩
  ·go_wp2_with fail;go_ret;refine⟨ag ?_,aB.out⟩;rw[<-HR.out];refine (Np.bO λx hx=>?_).symm;obtain⟨j,hj,rfl⟩:=nQ.1 hx;exact HA.out j _ (by omega) (aQ hj)
end
end Go.Proofs.YtfnopgdcaanaiaaGreatDoor
