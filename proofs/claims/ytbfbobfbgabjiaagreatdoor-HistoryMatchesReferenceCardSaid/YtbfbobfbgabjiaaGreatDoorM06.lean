/- Parts of the proof. No condition. -/
import Derived.RegionTactic
import Derived.Laws.MakeOwn
import Derived.ChangeAlike
import Derived.Test.YtbfbobfbgabjiaaGreatDoorM05
set_option linter.all false
set_option maxRecDepth 100000
set_option maxHeartbeats 8000000
namespace Go.Proofs.YtbfbobfbgabjiaaGreatDoor
open Go.Proofs.Tryz
section
open Go.RowKit
def RTx(_:World)(_:Nat)(e:List Value)(x:List UInt8):Prop:=∃ s:ByteArray,s.data.toList=x/\s.size<=140737488355328/\e = [.string s]
theorem jk:dK RTx:=λ_ _ _ _ _ h _=>h
theorem vt:dV RTx:=λ_ _ _ _ _ h _=>h
def gJ(a:List UInt8)(l:List Np.Signed):List (List UInt8×Value):=(l.filter λx=>decide (x.set.type=2)&&!(x.set.name == a)).map λx=>(x.set.name,.bool true)
theorem WX(a:List UInt8)(l:List Np.Signed)(x:Np.Signed):gJ a (l ++ [x])=if x.set.type=2/\x.set.name≠a then gJ a l ++ [(x.set.name,.bool true)] else gJ a l:=by
 unfold gJ;rw[List.filter_append];by_cases h1:x.set.type=2 <;> by_cases h2:x.set.name=a <;> simp[h1,h2]
theorem WY(a:List UInt8)(l:List Np.Signed)(x:Np.Signed):gJ a (x::l)=if x.set.type=2/\x.set.name≠a then (x.set.name,.bool true)::gJ a l else gJ a l:=by
 unfold gJ;by_cases h1:x.set.type=2 <;> by_cases h2:x.set.name=a <;> simp[h1,h2]
theorem DA(a:List UInt8)(n:List UInt8):∀ l:List Np.Signed,((gJ a l).lookup n).getD (.bool false) = .bool (Np.cT ⟨a,l⟩ n)/\((∀ x∈l,x.set.type=2->x.set.name≠n)->(gJ a l).lookup n=none)
 | []=>⟨rfl,λ_=>rfl⟩
 | x::l=>by
   obtain⟨i1,i2⟩:=DA a n l;have e:Np.cT ⟨a,x::l⟩ n=((decide (x.set.type=2)&&!(x.set.name == a)&&x.set.name == n)||Np.cT ⟨a,l⟩ n):=rfl;rw[WY];split
   ·rename_i h;by_cases hn:x.set.name=n
    ·rw[hn,List.lookup_cons_self];refine⟨?_,λhh=>absurd hn (hh x (by simp) h.1)⟩;rw[e];have h2:=h.2;rw[hn] at h2 |-;simp[h.1,h2]
    ·have hb:(n == x.set.name)=false:=by simpa using λe=>hn e.symm
     rw[List.lookup_cons,hb];refine⟨?_,λhh=>i2 λy hy=>hh y (mQ _ hy)⟩;have aa:(x.set.name == n)=false:=by simpa using hn
     rw[e,aa,Bool.and_false,Bool.false_or];exact i1
   ·rename_i h;refine⟨?_,λhh=>i2 λy hy=>hh y (mQ _ hy)⟩;have hf:(decide (x.set.type=2)&&!(x.set.name == a))=false:=by
     rw[Bool.and_eq_false_iff];by_cases h1:x.set.type=2
     ·right
      have:x.set.name=a:=Decidable.not_not.1 λh2=>h ⟨h1,h2⟩
      simp[this]
     ·left; simpa using h1
    rw[e,hf,Bool.false_and,Bool.false_or];exact i1
theorem Hj(n j:Nat)(hj:j<n):(madeCells #[Value.string ⟨#[]⟩] n)[j]?=some (.string ⟨#[]⟩):=by
 unfold madeCells;simp[hj,Nat.mod_one]
theorem Tryz.infoStrZ:(prog.info? 9).map (λi=>(i.zero,i.size,i.bytes))=some (some (.string ⟨#[]⟩),1,16):=by kernel_rfl
theorem G6(n:Nat)(hn:n<=20000)(w:World):(Instr.makeSlice 38 (.int .i64 n) (.int .i64 n)).run prog w = .ok (.slice (some ⟨w.heap.size,0,none⟩) n n) (w.alloc (.cells (madeCells #[Value.string ⟨#[]⟩] n) 9)):=by
 obtain⟨i,hi,hp⟩:=Option.map_eq_some_iff.1 Tryz.infoStrZ;simp only[Prod.mk.injEq] at hp;obtain⟨hz,hs,hb⟩:=hp
 have:=run_make (P:=prog) w 38 9 i (.string ⟨#[]⟩) underlying38 hi hz .i64 .i64 n n (by omega) (Int.le_refl _) (by rw[hb]; omega) (by omega)
 rw[hs] at this;simpa [Value.cells] using this
def fR(w:World)(B:Nat)(xs:List (List UInt8)):Prop:=∀ j x,xs[j]?=some x->∃ s:ByteArray,s.data.toList=x/\s.size<=140737488355328/\w.cell? ⟨B,j,none⟩=some (.string s)/\w.frozen? ⟨B,j,none⟩=false
theorem fR.keep{w w':World}{B n:Nat}{xs:List (List UInt8)}(h:fR w B xs)(hb:Below n w w')(hB:B<n):fR w' B xs:=λj x hx=>by
 obtain⟨s,h1,h2,h3,h4⟩:=h j x hx;exact⟨s,h1,h2,(hb.cell (p:=⟨B,j,none⟩) hB).trans h3,(hb.frozen (p:=⟨B,j,none⟩) hB).trans h4⟩
theorem fR.store{w:World}{B:Nat}{xs:List (List UInt8)}(h:fR w B xs){k:Nat}(hk:k<xs.length)(s:ByteArray)(hs:s.size<=140737488355328):fR (w.setCell ⟨B,k,none⟩ (.string s)) B (xs.set k s.data.toList):=λj x hx=>by
 rw[List.getElem?_set] at hx;by_cases BH:k=j
 ·subst BH;rw[Qb rfl,Qb hk] at hx
  cases hx
  obtain⟨s0,_,_,h3,h4⟩:=h k _ (aQ hk);exact⟨s,rfl,hs,by simp[World.cell?_setCell_same,h3],(World.frozen?_setCell _ _ _ _).trans h4⟩
 ·rw[Qc BH] at hx;obtain⟨s0,h1,h2,h3,h4⟩:=h j x hx;exact⟨s0,h1,h2,by rw[xQ _ _ _ _ (by simp <;> omega)]; exact h3,(World.frozen?_setCell _ _ _ _).trans h4⟩
theorem fR.other{w:World}{B:Nat}{xs:List (List UInt8)}(h:fR w B xs){p:Addr}(hp:p.block≠B)(u:Value):fR (w.setCell p u) B xs:=λj x hx=>by
 obtain⟨s,h1,h2,h3,h4⟩:=h j x hx;exact⟨s,h1,h2,(xQ _ _ _ _ (λe=>hp (by rw[e]))).trans h3,(World.frozen?_setCell _ _ _ _).trans h4⟩
theorem fR.slr{w:World}{B:Nat}{xs:List (List UInt8)}(h:fR w B xs)(hB:B<w.heap.size)(hl:xs.length<=140737488355328):SlR RTx 1 w w.heap.size (.slice (some ⟨B,0,none⟩) xs.length xs.length) xs:=
 ⟨_,_,rfl,bQ _,hl,λj x hx=>by
  obtain⟨s,h1,h2,h3,_⟩:=h j x hx;refine⟨B,0,[.string s],rfl,hB,rfl,λi v hv=>?_,s,h1,h2,rfl⟩
  match i,hv with
  | 0,hv=>cases hv; simpa using h3⟩
theorem Oz{bs:List (List UInt8)}{n k:Nat}{b:List UInt8}(hn:bs.length=n)(hb:bs[k]?=some b):(bs.take k++List.replicate (n - k) []).set k b=bs.take (k+1)++List.replicate (n - (k+1)) []:=by
 obtain⟨hk,rfl⟩:=cQ.1 hb;have e:n - k=(n - (k+1))+1:=by omega
 rw[e,List.replicate_succ,List.set_append_right _ _ (by rw[List.length_take]; omega),List.length_take,show k - min k bs.length=0 by omega,List.set_cons_zero,fQ hk,List.append_assoc]; rfl
structure LayK(w:World)(M Bl Bs:Nat)(a:ByteArray)(v sl:Value)(kv:List (List UInt8×Value))(wr:World)(bs:List (List UInt8)):Prop where
 below:Below w.heap.size w wr
 b0:wr.cell? ⟨w.heap.size,0,none⟩=some (.string a)
 b1:wr.cell? ⟨w.heap.size,1,none⟩=some v
 r0:wr.cell? ⟨w.heap.size+1,0,none⟩=some (.string ⟨#[]⟩)
 r1:wr.cell? ⟨w.heap.size+1,1,none⟩=some (.slice none 0 0)
 r2:wr.cell? ⟨w.heap.size+1,2,none⟩=some (.slice none 0 0)
 l0:wr.cell? ⟨Bl,0,none⟩=some (.string a)
 l1:wr.cell? ⟨Bl,1,none⟩=some v
 l2:wr.cell? ⟨Bl,2,none⟩=some sl
 map:dW M kv wr
 row:fR wr Bs bs
 blt:Bl<wr.heap.size
 slt:Bs<wr.heap.size
 rf:∀ j,wr.frozen? ⟨w.heap.size+1,j,none⟩=false
structure LayB(n M Bl Bs:Nat):Prop where
 map:n+2=M
 lay:M<Bl
 row:M<Bs
 ne:Bl≠Bs
theorem LayK.keep{w:World}{M Bl Bs:Nat}{a:ByteArray}{v sl:Value}{kv:List (List UInt8×Value)}{wr wx:World}{bs:List (List UInt8)}(h:LayK w M Bl Bs a v sl kv wr bs)(hB:LayB w.heap.size M Bl Bs)(hb:Below wr.heap.size wr wx):LayK w M Bl Bs a v sl kv wx bs:=by
 have h1:=hB.map;have h2:=hB.lay;have h3:=h.blt;have h4:=h.slt;have h5:=h.map.lt;have an:=hb.size;exact⟨h.below.trans (hb.mono h.below.size),(hb.cell (by simp <;> omega)).trans h.b0,(hb.cell (by simp <;> omega)).trans h.b1,(hb.cell (by simp <;> omega)).trans h.r0,(hb.cell (by simp <;> omega)).trans h.r1,(hb.cell (by simp <;> omega)).trans h.r2,
  (hb.cell (by simp <;> omega)).trans h.l0,(hb.cell (by simp <;> omega)).trans h.l1,(hb.cell (by simp <;> omega)).trans h.l2,h.map.keep hb h5,h.row.keep hb h4,by omega,by omega,λj=>(hb.frozen (by simp <;> omega)).trans (h.rf j)⟩
theorem dW.setCell{r:Nat}{kvs:List (List UInt8×Value)}{w:World}(h:dW r kvs w){p:Addr}(hp:p.block≠r)(u:Value):dW r kvs (w.setCell p u):=by
 obtain⟨es,c,h1,h2⟩:=h;exact⟨es,c,(wQ _ _ _ _ (λe=>hp e.symm)).trans h1,h2⟩
theorem LayK.store{w:World}{M Bl Bs:Nat}{a:ByteArray}{v sl:Value}{kv:List (List UInt8×Value)}{wr:World}{bs:List (List UInt8)}(h:LayK w M Bl Bs a v sl kv wr bs)(hB:LayB w.heap.size M Bl Bs){k:Nat}(hk:k<bs.length)(s:ByteArray)(hs:s.size<=140737488355328):LayK w M Bl Bs a v sl kv (wr.setCell ⟨Bs,k,none⟩ (.string s)) (bs.set k s.data.toList):=by
 have h1:=hB.map;have h2:=hB.lay;have h3:=hB.row;have h4:=hB.ne;exact⟨h.below.setCell (by simp <;> omega) _,(xQ _ _ _ _ (by simp <;> omega)).trans h.b0,(xQ _ _ _ _ (by simp <;> omega)).trans h.b1,(xQ _ _ _ _ (by simp <;> omega)).trans h.r0,(xQ _ _ _ _ (by simp <;> omega)).trans h.r1,(xQ _ _ _ _ (by simp <;> omega)).trans h.r2,
  (xQ _ _ _ _ (by simp <;> omega)).trans h.l0,(xQ _ _ _ _ (by simp <;> omega)).trans h.l1,(xQ _ _ _ _ (by simp <;> omega)).trans h.l2,h.map.setCell (by simp <;> omega) _,h.row.store hk s hs,by simpa using h.blt,by simpa using h.slt,λj=>(World.frozen?_setCell _ _ _ _).trans (h.rf j)⟩
def PE(w:World)(M Bl Bs:Nat)(a:ByteArray)(v sl:Value)(kv:List (List UInt8×Value))(B:List (List UInt8))(C:List UInt8->Bool)(l:List Np.Signed)(vc i:Value)(wr:World):Prop:=
 ∃ (k:Nat) (sc:ByteArray),k<=l.length/\i = .int .i64 k/\vc = .string sc/\sc.size<=140737488355328/\Hid (LayK w M Bl Bs a v sl kv wr (B.take k++List.replicate (l.length - k) []))/\Hid (sc.data.toList = []\/Np.aG sc.data.toList=true)/\Hid (B.drop k=Np.oH C sc.data.toList (l.drop k))
def LayA(M:Nat)(w1:World)(a:List UInt8)(l:List Np.Signed)(i:Value)(wr:World):Prop:=
 ∃ k:Nat,k<=l.length/\i = .int .i64 k/\Hid (Below M w1 wr)/\Hid (dW M (gJ a (l.take k)) wr)
theorem ZA(a:ByteArray)(v:Value)(l:List Np.Signed)(cu:l.length<=20000)(hv:∀ x∈l,Np.aG x.set.name=true)(hs:Np.vC l)(w:World)(hd:SlR bK 5 w w.heap.size v l) :
 Calls prog 103 #[.agg #[.string a,v]] w λe w'=>(∃ bv,e = .returned (.agg #[.string a,v,bv])/\SlR RTx 1 w' w'.heap.size bv (Np.ef ⟨a.data.toList,l⟩))/\Below w.heap.size w w':=by
 obtain⟨B,EW⟩:∃ B,Np.ef ⟨a.data.toList,l⟩=B:=⟨_,rfl⟩;rw[EW];have dE:=jq EW;have eL:Hid (B.length=l.length):=jq (by rw[<-EW]; exact Np.tv _);clear EW;have HV:=jq hv;have HS:=jq hs;have HD:=jq hd;obtain⟨A,c,rfl,bC,bH⟩:=ag hd;clear hv hs hd;have wN:∀ (w:World),(Instr.makeMap 151 none).run prog w = .ok (.map (some w.heap.size)) (w.alloc (.map #[] 0)):=λw=>by
  simp[Instr.makeMap,Result.andThen]
 have HW:Hid (∀ o o' o'',Below w.heap.size w (((w.alloc o).alloc o').alloc o'')):=jq (λo o' o''=>(((vQ _ w).alloc (bQ _) _).alloc (by simp) _).alloc (by simp; omega) _);go_enter func103,ntmps103;go_wp2_with fail;obtain⟨w1,al⟩:∃ w1,((w.alloc (.cells #[.string a,.slice A l.length c] 161)).alloc (.cells #[.string ⟨#[]⟩,.slice none 0 0,.slice none 0 0] 163)).alloc (.map #[] 0)=w1:=⟨_,rfl⟩;have c0:w1.cell? ⟨w.heap.size,0,none⟩=some (.string a):=by rw[<-al]; simp[go_sem]
 have c1:w1.cell? ⟨w.heap.size,1,none⟩=some (.slice A l.length c):=by rw[<-al]; simp[go_sem]
 have e0:w1.cell? ⟨w.heap.size+1,0,none⟩=some (.string ⟨#[]⟩):=by rw[<-al]; simp[go_sem]
 have e1:w1.cell? ⟨w.heap.size+1,1,none⟩=some (.slice none 0 0):=by rw[<-al]; simp[go_sem]
 have e2:w1.cell? ⟨w.heap.size+1,2,none⟩=some (.slice none 0 0):=by rw[<-al]; simp[go_sem]
 have fh:w1.heap.size=w.heap.size+3:=by rw[<-al]; simp
 have P1:Hid (dW (w.heap.size+1+1) [] w1):=jq (by
  have:=dW.made ((w.alloc (.cells #[.string a,.slice A l.length c] 161)).alloc (.cells #[.string ⟨#[]⟩,.slice none 0 0,.slice none 0 0] 163))
  rw[<-al]; simpa using this)
 have aF:Hid (Below w.heap.size w w1):=jq (by rw[<-al]; exact HW.out _ _ _);have KP:Hid (∀ j,w1.frozen? ⟨w.heap.size+1,j,none⟩=false):=jq (λj=>by rw[<-al]; simp[go_sem]);have HC:=jq (And.intro c0 (And.intro c1 (And.intro e0 (And.intro e1 e2))));rw[al];clear al c0 c1 e0 e1 e2;obtain⟨M,hM⟩:∃ M,w.heap.size+1+1=M:=⟨_,rfl⟩;rw[hM] at P1 |-;go_loopw [18] (λi wr=>LayA M w1 a.data.toList l i wr) (λi _=>l.length - (intOf i).toNat)
 case atStart=>exact⟨0,jQ _,rfl,jq (vQ _ _),P1⟩
 case round=>
  obtain⟨k,hk,rfl,HB,HM⟩:=hrel;have an:=HB.out.size;obtain⟨c0,c1,e0,e1,e2⟩:=HC.out;have d0:wr.cell? ⟨w.heap.size,0,none⟩=some (.string a):=by rw[HB.out.cell (by simp; omega)]; exact c0
  have d1:wr.cell? ⟨w.heap.size,1,none⟩=some (.slice A l.length c):=by rw[HB.out.cell (by simp; omega)]; exact c1
  have qM:=HM.out.lt;have dF:w.heap.size<wr.heap.size:=by omega
  have aD:Hid (Below w.heap.size w wr):=jq (aF.out.trans (HB.out.mono (by omega)));have HFZ:Hid (∀ j,wr.frozen? ⟨w.heap.size+1,j,none⟩=false):=jq (λj=>(HB.out.frozen (p:=⟨w.heap.size+1,j,none⟩) (by dsimp only; omega)).trans (KP.out j));have uO:Hid (wr.cell? ⟨w.heap.size+1,0,none⟩=some (.string ⟨#[]⟩)/\wr.cell? ⟨w.heap.size+1,1,none⟩=some (.slice none 0 0)/\wr.cell? ⟨w.heap.size+1,2,none⟩=some (.slice none 0 0)):=jq ⟨(HB.out.cell (by dsimp only; omega)).trans e0,(HB.out.cell (by dsimp only; omega)).trans e1,(HB.out.cell (by dsimp only; omega)).trans e2⟩;clear c0 c1 e0 e1 e2;by_cases ab:k<l.length
  ·have ac:=aQ ab;obtain⟨b,o,c',sn,dv,sv,hA,bg,_,az,bL,bd,aL,f0,f1,f2,f3,f4⟩:=eT (HD.out.keep aV aD.out) ac
   cases hA
   have ht:l.take (k+1)=l.take k ++ [l[k]]:=fQ ab;have aeJ:Hid (l[k].set.type=2->(gJ a.data.toList (l.take k)).lookup sn.data.toList=none):=jq (λh2=>by
    refine (DA _ _ _).2 λy hy h3 he=>?_;obtain⟨j,hj,rfl⟩:=nQ.1 hy;rw[List.length_take] at hj;have h4:=G0 HS.out (aQ (show j<l.length by omega)) ac (by omega);rw[List.getElem_take] at h3 he;have h5:Np.fd l[j].set=Np.fd l[k].set:=by unfold Np.fd; rw[h3,h2,he,az]
    rw[h5,Np.yz.self] at h4;omega)
   have HT:Hid (∀ kv,(if l[k].set.type=2/\l[k].set.name≠a.data.toList then gJ a.data.toList (l.take k) ++ [(l[k].set.name,.bool true)] else gJ a.data.toList (l.take k))=kv->gJ a.data.toList (l.take (k+1))=kv):=jq (λkv h=>by rw[ht,WX]; exact h);generalize hx:l[k]=x at *;clear hx ht;obtain⟨Ad,cd,rfl,_,_⟩:=ag bd;obtain⟨As,cs,rfl,_,_⟩:=ag aL;have aS:=jq az;have ei:Hid (∀ o,Below wr.heap.size wr (wr.alloc o)):=jq (λo=>(vQ _ _).alloc (bQ _) _);have br:Hid (∀ o,Below M w1 (wr.alloc o)):=jq (λo=>HB.out.alloc (by omega) _);clear ac az bd aL;by_cases h2:x.set.type=2
   ·have aa:(x.set.type == 2)=true:=by simpa using h2
    by_cases hn:x.set.name=a.data.toList
    ·have jV:(!sn.toList == a.toList)=false:=by rw[dQ,dQ,aS.out,hn]; simp
     have lL:=jq (HT.out _ (Qc λh=>h.2 hn));clear h2 hn;go_wp2_with fail;go_roundw
     case rel=>exact⟨k+1,by omega,by go_num,jq (br.out _),jq (by rw[lL.out]; exact HM.out.keep (ei.out _) qM)⟩
     case measure=>simp[intOf] <;> omega
    ·have jV:(!sn.toList == a.toList)=true:=by rw[dQ,dQ,aS.out]; simpa using hn
     have lL:=jq (HT.out _ (Qb ⟨h2,hn⟩));have mX:=jq (aeJ.out h2);clear h2 hn;go_wp2_with (at_mapUpdate; refine LK _ rfl _ _ _ 151 rfl 9 4 underlying151 underlying9 M (gJ a.data.toList (l.take k)) rfl (HM.out.keep (ei.out _) qM) sn.data.toList rfl (.bool true) rfl mX.out ?_; intro w5 mF mg; have H5:=jq (And.intro mF mg); clear mF mg);go_roundw
     case rel=>exact⟨k+1,by omega,by go_num,jq ((br.out _).trans (H5.out.2.below (bQ _))),jq (by rw[lL.out,<-aS.out]; exact H5.out.1)⟩
     case measure=>simp[intOf] <;> omega
   ·have aa:(x.set.type == 2)=false:=by simpa using h2
    have lL:=jq (HT.out _ (Qc λh=>h2 h.1));clear h2;go_wp2_with fail;go_roundw
    case rel=>exact⟨k+1,by omega,by go_num,jq (br.out _),jq (by rw[lL.out]; exact HM.out.keep (ei.out _) qM)⟩
    case measure=>simp[intOf] <;> omega
  ·have mV:k=l.length:=by omega
   subst mV;rw[List.take_length] at HM;go_wp2_with fail;have gL:=G6 l.length cu;have HZ:Hid (∀ j,j<l.length->(madeCells #[Value.string ⟨#[]⟩] l.length)[j]?=some (.string ⟨#[]⟩)):=jq (λj hj=>Hj _ _ hj);generalize madeCells #[Value.string ⟨#[]⟩] l.length=Z at gL HZ;have FO:=jq (And.intro d0 d1);have Fr:Hid (∀ (Bl Bs:Nat) (w5:World),Below wr.heap.size wr w5->M<Bl->M<Bs->Bl≠Bs->Bl<w5.heap.size->Bs<w5.heap.size->w5.cell? ⟨Bl,0,none⟩=some (.string a)->w5.cell? ⟨Bl,1,none⟩=some (.slice A l.length c)->w5.cell? ⟨Bl,2,none⟩=some (.slice (some ⟨Bs,0,none⟩) l.length l.length)->(∀ j,j<l.length->w5.cell? ⟨Bs,j,none⟩=some (.string ⟨#[]⟩))->(∀ j,w5.frozen? ⟨Bs,j,none⟩=false)->
    LayB w.heap.size M Bl Bs/\LayK w M Bl Bs a (.slice A l.length c) (.slice (some ⟨Bs,0,none⟩) l.length l.length) (gJ a.data.toList l) w5 (List.replicate l.length [])):=jq (λBl Bs w5 hb h1 h2 h3 h4 h5 k0 k1 k2 hz sT=>by
    refine⟨⟨by omega,h1,h2,h3⟩,aD.out.trans (hb.mono (by omega)),(hb.cell (by dsimp only; omega)).trans FO.out.1,(hb.cell (by dsimp only; omega)).trans FO.out.2,(hb.cell (by dsimp only; omega)).trans uO.out.1,(hb.cell (by dsimp only; omega)).trans uO.out.2.1,(hb.cell (by dsimp only; omega)).trans uO.out.2.2,k0,k1,k2,HM.out.keep hb qM,λj x hx=>?_,h4,h5,λj=>(hb.frozen (by dsimp only; omega)).trans (HFZ.out j)⟩;rw[List.getElem?_replicate] at hx;split at hx
    ·rename_i hj
     cases hx
     exact⟨⟨#[]⟩,rfl,by decide,hz j hj,sT j⟩
    ·cases hx)
   go_region
   ·obtain⟨w5,aX⟩:∃ w5,((wr.alloc (.cells Z 9)).alloc (.cells #[.string a,.slice A l.length c,.slice (some ⟨wr.heap.size,0,none⟩) l.length l.length] 163)).drew=w5:=⟨_,rfl⟩;have aA:Below wr.heap.size wr w5:=by rw[<-aX]; exact (((vQ _ _).alloc (bQ _) _).alloc (by simp) _).drew
    have hp:=Fr.out (wr.heap.size+1) wr.heap.size w5 aA (by omega) (by omega) (by omega) (by rw[<-aX]; simp) (by rw[<-aX]; simp; omega) (by rw[<-aX]; simp[go_sem]) (by rw[<-aX]; simp[go_sem]) (by rw[<-aX]; simp[go_sem]) (λj hj=>by rw[<-aX]; simp[go_sem]; exact HZ.out j hj) (λj=>by rw[<-aX]; simp[go_sem]);rw[aX];obtain⟨BW,Bf⟩:=hp;have ku:=jq BW;have lq:=jq Bf;clear aX aA BW Bf gL Fr HZ uO FO HB aD d0 d1;generalize wr.heap.size+1=X1 at *;generalize wr.heap.size=X0 at *;have c50:=lq.out.b0;have c51:=lq.out.b1;go_wp2_with fail;clear c50 c51;go_loopw [7,51] (λvc i wr=>PE w M X1 X0 a (.slice A l.length c) (.slice (some ⟨X0,0,none⟩) l.length l.length) (gJ a.data.toList l) B (Np.cT ⟨a.data.toList,l⟩) l vc i wr) (λ_ i _=>l.length - (intOf i).toNat)
    case atStart=>exact⟨0,⟨#[]⟩,jQ _,rfl,rfl,by decide,jq lq.out,jq (.inl rfl),jq (by rw[<-dE.out]; rfl)⟩
    case round=>
     obtain⟨k,sc,hk,rfl,rfl,fW,HK,xz,HE⟩:=hrel;have no:=HK.out.l2;have cD:=HK.out.blt;have kZ:=HK.out.slt;have qM:=HK.out.map.lt;have mv:=HK.out.below.size;by_cases ab:k<l.length
     ·have ac:=aQ ab;obtain⟨b,o,c',sn,dv,sv,hA,bg,_,az,bL,bd,aL,f0,f1,f2,f3,f4⟩:=eT (HD.out.keep aV HK.out.below) ac
      cases hA
      have iO:Hid (Np.aG sn.data.toList=true):=jq (by rw[az]; exact HV.out _ (List.getElem_mem ab));have ck:Hid (B[k]?=some (Np.dR (Np.cT ⟨a.data.toList,l⟩) sc.data.toList sn.data.toList)/\B.drop (k+1)=Np.oH (Np.cT ⟨a.data.toList,l⟩) (Np.dR (Np.cT ⟨a.data.toList,l⟩) sc.data.toList sn.data.toList) (l.drop (k+1))):=jq (by
       have h1:=HE.out;rw[sQ ab,Np.oH,<-az] at h1;refine⟨?_,?_⟩
       ·have:=List.getElem?_drop (xs:=B) (i:=k) (j:=0)
        rw[h1,Nat.add_zero] at this;exact this.symm
       ·have:=Qd (List.drop 1) h1
        rw[List.drop_drop] at this;simpa using this)
      obtain⟨s0,_,_,gD,oU⟩:=HK.out.row k [] (by
       rw[oQ (by rw[List.length_take]; omega),List.length_take,eL.out,show k - min k l.length=0 by omega,List.getElem?_replicate,Qb (by omega)])
      have jC:Hid (∀ (wx:World) (s:ByteArray),Below wr.heap.size wr wx->s.size<=140737488355328->s.data.toList=Np.dR (Np.cT ⟨a.data.toList,l⟩) sc.data.toList sn.data.toList->LayK w M X1 X0 a (.slice (some ⟨b,o,none⟩) l.length c) (.slice (some ⟨X0,0,none⟩) l.length l.length) (gJ a.data.toList l) (wx.setCell ⟨X0,k,none⟩ (.string s)) (B.take (k+1)++List.replicate (l.length - (k+1)) [])):=jq (λwx s hb an hs=>by
       rw[<-Oz eL.out ck.out.1,<-hs];exact (HK.out.keep ku.out hb).store ku.out (by rw[List.length_append,List.length_take,List.length_replicate,eL.out]; omega) s an)
      have K2:=jq HK.out.map;have ei:Hid (∀ o,Below wr.heap.size wr (wr.alloc o)):=jq (λo=>(vQ _ _).alloc (bQ _) _);generalize hx:l[k]=x at *;clear hx ac;obtain⟨Ad,cd,rfl,_,_⟩:=ag bd;obtain⟨As,cs,rfl,_,_⟩:=ag aL;clear az bd aL;have bW:(0:Int)<=(k:Int):=by omega
      have bV:(k:Int)<(l.length:Int):=by omega
      obtain⟨cb,dX⟩:∃ cb,Np.cT ⟨a.data.toList,l⟩ sn.data.toList=cb:=⟨_,rfl⟩;have nu:=jq dX;have kr:Hid (((gJ a.data.toList l).lookup sn.data.toList).getD (.bool false) = .bool cb):=jq (by rw[<-dX]; exact (DA _ _ l).1);clear dX;have vR:Hid (∀ wx,Below wr.heap.size wr wx->Sem.run prog (Instr.lookup 151 (.map (some M)) (.string sn) false) wx = .ok (.bool cb) wx):=jq (λwx hb=>by
       have:=Ge (P:=prog) wx 151 9 4 underlying151 underlying9 M (gJ a.data.toList l) (K2.out.keep hb qM) sn.data.toList (.bool false) (by kernel_rfl)
       rw[kr.out] at this;exact this)
      by_cases hce:sc.data.toList = []
      ·obtain rfl:sc=⟨#[]⟩:=iV hce;have ic:Hid (cb=true->sn.data.toList=Np.dR (Np.cT ⟨a.data.toList,l⟩) [] sn.data.toList):=jq (λh=>by
        unfold Np.dR;rw[nu.out,h]; simp)
       have lF:Hid (cb=false->[]=Np.dR (Np.cT ⟨a.data.toList,l⟩) [] sn.data.toList):=jq (λh=>by
        unfold Np.dR;rw[nu.out,h]; simp)
       clear hce
       cases cb with
       | true=>
        have jd:∀ o,Sem.run prog (Instr.lookup 151 (.map (some M)) (.string sn) false) (wr.alloc o) = .ok (.bool true) (wr.alloc o):=λo=>vR.out _ (ei.out o);go_wp2_with fail;go_roundw
        case rel=>exact⟨k+1,sn,by omega,by go_num,rfl,bL,jq ((jC.out wr sn (vQ _ _) bL (ic.out (by simp))).keep ku.out ((vQ _ _).alloc (bQ _) _)),jq (.inr iO.out),jq (by rw[ic.out (by simp)]; exact ck.out.2)⟩
        case measure=>simp[intOf] <;> omega
       | false=>
        have jd:∀ o,Sem.run prog (Instr.lookup 151 (.map (some M)) (.string sn) false) (wr.alloc o) = .ok (.bool false) (wr.alloc o):=λo=>vR.out _ (ei.out o);go_wp2_with fail;go_roundw
        case rel=>exact⟨k+1,⟨#[]⟩,by omega,by go_num,rfl,by decide,jq ((jC.out wr ⟨#[]⟩ (vQ _ _) (by decide) (lF.out (by simp))).keep ku.out ((vQ _ _).alloc (bQ _) _)),jq (.inl rfl),jq (by rw[show (⟨#[]⟩:ByteArray).data.toList = [] from rfl,lF.out (by simp)]; exact ck.out.2)⟩
        case measure=>simp[intOf] <;> omega
      ·have aEQ:(!sc.toList == [])=true:=by rw[dQ]; simpa using hce
       have Cb:(sc.toList == [])=false:=by rw[dQ]; simpa using hce
       have lh:Hid (Np.aG sc.data.toList=true):=jq (xz.out.resolve_left hce);have mw:=jq hce;have hMs:M<wr.heap.size:=qM;clear hce;go_wp2_with fail;refine (GW sn sc bL fW _ iO.out lh.out).mono ?_;rintro e w2 ⟨rfl,aa⟩;have ak:=jq ((ei.out _).trans (aa.mono (by simp)));have dz:w2.cell? ⟨X1,2,none⟩=some (.slice (some ⟨X0,0,none⟩) l.length l.length):=(ak.out.cell (by dsimp only; omega)).trans no;have b7:w2.cell? ⟨X0,k,none⟩=some (.string s0):=(ak.out.cell (by dsimp only; omega)).trans gD;have aN:=ak.out.size;have hf2:w2.frozen? ⟨X0,k,none⟩=false:=(ak.out.frozen (by dsimp only; omega)).trans oU;clear aa no gD oU
       cases gl:Np.bG sn.data.toList sc.data.toList with
       | true=>
        have ic:Hid (sc.data.toList=Np.dR (Np.cT ⟨a.data.toList,l⟩) sc.data.toList sn.data.toList):=jq (by
         unfold Np.dR;simp[mw.out,gl])
        clear gl;go_wp2_with fail;go_roundw
        case rel=>exact⟨k+1,sc,by omega,by go_num,rfl,fW,jq (jC.out _ sc ak.out fW ic.out),jq (.inr lh.out),jq (by rw[ic.out]; exact ck.out.2)⟩
        case measure=>simp[intOf] <;> omega
       | false=>
        have ic:Hid (cb=true->sn.data.toList=Np.dR (Np.cT ⟨a.data.toList,l⟩) sc.data.toList sn.data.toList):=jq (λh=>by
         unfold Np.dR;rw[nu.out,h]; simp[gl,mw.out])
        have lF:Hid (cb=false->[]=Np.dR (Np.cT ⟨a.data.toList,l⟩) sc.data.toList sn.data.toList):=jq (λh=>by
         unfold Np.dR;rw[nu.out,h]; simp[gl,mw.out])
        clear gl;have jd:=vR.out w2 ak.out
        cases cb with
        | true=>
         go_wp2_with fail;go_roundw
         case rel=>exact⟨k+1,sn,by omega,by go_num,rfl,bL,jq (jC.out _ sn ak.out bL (ic.out (by simp))),jq (.inr iO.out),jq (by rw[ic.out (by simp)]; exact ck.out.2)⟩
         case measure=>simp[intOf] <;> omega
        | false=>
         go_wp2_with fail;go_roundw
         case rel=>exact⟨k+1,⟨#[]⟩,by omega,by go_num,rfl,by decide,jq (jC.out _ ⟨#[]⟩ ak.out (by decide) (lF.out (by simp))),jq (.inl rfl),jq (by rw[show (⟨#[]⟩:ByteArray).data.toList = [] from rfl,lF.out (by simp)]; exact ck.out.2)⟩
         case measure=>simp[intOf] <;> omega
     ·have Bb:k=l.length:=by omega
      have lR:Hid (B.take k++List.replicate (l.length - k) []=B):=jq (by rw[Bb,Nat.sub_self,List.replicate_zero,List.append_nil,kQ (by rw[eL.out]; exact bQ _)]);clear Bb;have g0:=HK.out.l0;have g1:=HK.out.l1;have r0:=HK.out.r0;have r1:=HK.out.r1;have r2:=HK.out.r2;have rf0:=HK.out.rf 0;have rf1:=HK.out.rf 1;have rf2:=HK.out.rf 2;go_wp2_with fail;obtain⟨w6,cr⟩:∃ w6,((wr.setCell ⟨w.heap.size+1,0,none⟩ (.string a)).setCell ⟨w.heap.size+1,1,none⟩ (.slice A l.length c)).setCell ⟨w.heap.size+1,2,none⟩ (.slice (some ⟨X0,0,none⟩) l.length l.length)=w6:=⟨_,rfl⟩;have q0:w6.cell? ⟨w.heap.size+1,0,none⟩=some (.string a):=by rw[<-cr]; simp[go_sem,r0]
      have q1:w6.cell? ⟨w.heap.size+1,1,none⟩=some (.slice A l.length c):=by rw[<-cr]; simp[go_sem,r1]
      have q2:w6.cell? ⟨w.heap.size+1,2,none⟩=some (.slice (some ⟨X0,0,none⟩) l.length l.length):=by rw[<-cr]; simp[go_sem,r2]
      have h1:=ku.out.map;have h2:=ku.out.row;have cY:Hid (Below w.heap.size w w6):=jq (by rw[<-cr]; exact ((HK.out.below.setCell (by simp) _).setCell (by simp) _).setCell (by simp) _);have I8:Hid (SlR RTx 1 w6 w6.heap.size (.slice (some ⟨X0,0,none⟩) l.length l.length) B):=jq (by
       have h3:=HK.out.row;rw[lR.out] at h3;have h4:=((h3.other (p:=⟨w.heap.size+1,0,none⟩) (by simp; omega) (.string a)).other (p:=⟨w.heap.size+1,1,none⟩) (by simp; omega) (.slice A l.length c)).other (p:=⟨w.heap.size+1,2,none⟩) (by simp; omega) (.slice (some ⟨X0,0,none⟩) l.length l.length);rw[cr] at h4;have h5:=h4.slr (by rw[<-cr]; simp; omega) (by rw[eL.out]; omega);rw[eL.out] at h5;exact h5)
      rw[cr];clear cr r0 r1 r2 rf0 rf1 rf2 g0 g1 no;refine bodyPost_ret (v:=.agg #[.string a,.slice A l.length c,.slice (some ⟨X0,0,none⟩) l.length l.length]) ?_ rfl ⟨⟨_,rfl,I8.out⟩,cY.out⟩;simp[results,results103,go_sem,q0,q1,q2]
   ·obtain⟨w5,aX⟩:∃ w5,((wr.alloc (.cells #[.string a,.slice A l.length c,.slice (some ⟨wr.heap.size+1,0,none⟩) l.length l.length] 163)).alloc (.cells Z 9)).drew=w5:=⟨_,rfl⟩;have aA:Below wr.heap.size wr w5:=by rw[<-aX]; exact (((vQ _ _).alloc (bQ _) _).alloc (by simp) _).drew
    have hp:=Fr.out wr.heap.size (wr.heap.size+1) w5 aA (by omega) (by omega) (by omega) (by rw[<-aX]; simp; omega) (by rw[<-aX]; simp) (by rw[<-aX]; simp[go_sem]) (by rw[<-aX]; simp[go_sem]) (by rw[<-aX]; simp[go_sem]) (λj hj=>by rw[<-aX]; simp[go_sem]; exact HZ.out j hj) (λj=>by rw[<-aX]; simp[go_sem]);rw[aX];obtain⟨BW,Bf⟩:=hp;have ku:=jq BW;have lq:=jq Bf;clear aX aA BW Bf gL Fr HZ uO FO HB aD d0 d1;generalize wr.heap.size+1=X0 at *;generalize wr.heap.size=X1 at *;have c50:=lq.out.b0;have c51:=lq.out.b1;go_wp2_with fail;clear c50 c51;go_loopw [7,51] (λvc i wr=>PE w M X1 X0 a (.slice A l.length c) (.slice (some ⟨X0,0,none⟩) l.length l.length) (gJ a.data.toList l) B (Np.cT ⟨a.data.toList,l⟩) l vc i wr) (λ_ i _=>l.length - (intOf i).toNat)
    case atStart=>exact⟨0,⟨#[]⟩,jQ _,rfl,rfl,by decide,jq lq.out,jq (.inl rfl),jq (by rw[<-dE.out]; rfl)⟩
    case round=>
     obtain⟨k,sc,hk,rfl,rfl,fW,HK,xz,HE⟩:=hrel;have no:=HK.out.l2;have cD:=HK.out.blt;have kZ:=HK.out.slt;have qM:=HK.out.map.lt;have mv:=HK.out.below.size;by_cases ab:k<l.length
     ·have ac:=aQ ab;obtain⟨b,o,c',sn,dv,sv,hA,bg,_,az,bL,bd,aL,f0,f1,f2,f3,f4⟩:=eT (HD.out.keep aV HK.out.below) ac
      cases hA
      have iO:Hid (Np.aG sn.data.toList=true):=jq (by rw[az]; exact HV.out _ (List.getElem_mem ab));have ck:Hid (B[k]?=some (Np.dR (Np.cT ⟨a.data.toList,l⟩) sc.data.toList sn.data.toList)/\B.drop (k+1)=Np.oH (Np.cT ⟨a.data.toList,l⟩) (Np.dR (Np.cT ⟨a.data.toList,l⟩) sc.data.toList sn.data.toList) (l.drop (k+1))):=jq (by
       have h1:=HE.out;rw[sQ ab,Np.oH,<-az] at h1;refine⟨?_,?_⟩
       ·have:=List.getElem?_drop (xs:=B) (i:=k) (j:=0)
        rw[h1,Nat.add_zero] at this;exact this.symm
       ·have:=Qd (List.drop 1) h1
        rw[List.drop_drop] at this;simpa using this)
      obtain⟨s0,_,_,gD,oU⟩:=HK.out.row k [] (by
       rw[oQ (by rw[List.length_take]; omega),List.length_take,eL.out,show k - min k l.length=0 by omega,List.getElem?_replicate,Qb (by omega)])
      have jC:Hid (∀ (wx:World) (s:ByteArray),Below wr.heap.size wr wx->s.size<=140737488355328->s.data.toList=Np.dR (Np.cT ⟨a.data.toList,l⟩) sc.data.toList sn.data.toList->LayK w M X1 X0 a (.slice (some ⟨b,o,none⟩) l.length c) (.slice (some ⟨X0,0,none⟩) l.length l.length) (gJ a.data.toList l) (wx.setCell ⟨X0,k,none⟩ (.string s)) (B.take (k+1)++List.replicate (l.length - (k+1)) [])):=jq (λwx s hb an hs=>by
       rw[<-Oz eL.out ck.out.1,<-hs];exact (HK.out.keep ku.out hb).store ku.out (by rw[List.length_append,List.length_take,List.length_replicate,eL.out]; omega) s an)
      have K2:=jq HK.out.map;have ei:Hid (∀ o,Below wr.heap.size wr (wr.alloc o)):=jq (λo=>(vQ _ _).alloc (bQ _) _);generalize hx:l[k]=x at *;clear hx ac;obtain⟨Ad,cd,rfl,_,_⟩:=ag bd;obtain⟨As,cs,rfl,_,_⟩:=ag aL;clear az bd aL;have bW:(0:Int)<=(k:Int):=by omega
      have bV:(k:Int)<(l.length:Int):=by omega
      obtain⟨cb,dX⟩:∃ cb,Np.cT ⟨a.data.toList,l⟩ sn.data.toList=cb:=⟨_,rfl⟩;have nu:=jq dX;have kr:Hid (((gJ a.data.toList l).lookup sn.data.toList).getD (.bool false) = .bool cb):=jq (by rw[<-dX]; exact (DA _ _ l).1);clear dX;have vR:Hid (∀ wx,Below wr.heap.size wr wx->Sem.run prog (Instr.lookup 151 (.map (some M)) (.string sn) false) wx = .ok (.bool cb) wx):=jq (λwx hb=>by
       have:=Ge (P:=prog) wx 151 9 4 underlying151 underlying9 M (gJ a.data.toList l) (K2.out.keep hb qM) sn.data.toList (.bool false) (by kernel_rfl)
       rw[kr.out] at this;exact this)
      by_cases hce:sc.data.toList = []
      ·obtain rfl:sc=⟨#[]⟩:=iV hce;have ic:Hid (cb=true->sn.data.toList=Np.dR (Np.cT ⟨a.data.toList,l⟩) [] sn.data.toList):=jq (λh=>by
        unfold Np.dR;rw[nu.out,h]; simp)
       have lF:Hid (cb=false->[]=Np.dR (Np.cT ⟨a.data.toList,l⟩) [] sn.data.toList):=jq (λh=>by
        unfold Np.dR;rw[nu.out,h]; simp)
       clear hce
       cases cb with
       | true=>
        have jd:∀ o,Sem.run prog (Instr.lookup 151 (.map (some M)) (.string sn) false) (wr.alloc o) = .ok (.bool true) (wr.alloc o):=λo=>vR.out _ (ei.out o);go_wp2_with fail;go_roundw
        case rel=>exact⟨k+1,sn,by omega,by go_num,rfl,bL,jq ((jC.out wr sn (vQ _ _) bL (ic.out (by simp))).keep ku.out ((vQ _ _).alloc (bQ _) _)),jq (.inr iO.out),jq (by rw[ic.out (by simp)]; exact ck.out.2)⟩
        case measure=>simp[intOf] <;> omega
       | false=>
        have jd:∀ o,Sem.run prog (Instr.lookup 151 (.map (some M)) (.string sn) false) (wr.alloc o) = .ok (.bool false) (wr.alloc o):=λo=>vR.out _ (ei.out o);go_wp2_with fail;go_roundw
        case rel=>exact⟨k+1,⟨#[]⟩,by omega,by go_num,rfl,by decide,jq ((jC.out wr ⟨#[]⟩ (vQ _ _) (by decide) (lF.out (by simp))).keep ku.out ((vQ _ _).alloc (bQ _) _)),jq (.inl rfl),jq (by rw[show (⟨#[]⟩:ByteArray).data.toList = [] from rfl,lF.out (by simp)]; exact ck.out.2)⟩
        case measure=>simp[intOf] <;> omega
      ·have aEQ:(!sc.toList == [])=true:=by rw[dQ]; simpa using hce
       have Cb:(sc.toList == [])=false:=by rw[dQ]; simpa using hce
       have lh:Hid (Np.aG sc.data.toList=true):=jq (xz.out.resolve_left hce);have mw:=jq hce;have hMs:M<wr.heap.size:=qM;clear hce;go_wp2_with fail;refine (GW sn sc bL fW _ iO.out lh.out).mono ?_;rintro e w2 ⟨rfl,aa⟩;have ak:=jq ((ei.out _).trans (aa.mono (by simp)));have dz:w2.cell? ⟨X1,2,none⟩=some (.slice (some ⟨X0,0,none⟩) l.length l.length):=(ak.out.cell (by dsimp only; omega)).trans no;have b7:w2.cell? ⟨X0,k,none⟩=some (.string s0):=(ak.out.cell (by dsimp only; omega)).trans gD;have aN:=ak.out.size;have hf2:w2.frozen? ⟨X0,k,none⟩=false:=(ak.out.frozen (by dsimp only; omega)).trans oU;clear aa no gD oU
       cases gl:Np.bG sn.data.toList sc.data.toList with
       | true=>
        have ic:Hid (sc.data.toList=Np.dR (Np.cT ⟨a.data.toList,l⟩) sc.data.toList sn.data.toList):=jq (by
         unfold Np.dR;simp[mw.out,gl])
        clear gl;go_wp2_with fail;go_roundw
        case rel=>exact⟨k+1,sc,by omega,by go_num,rfl,fW,jq (jC.out _ sc ak.out fW ic.out),jq (.inr lh.out),jq (by rw[ic.out]; exact ck.out.2)⟩
        case measure=>simp[intOf] <;> omega
       | false=>
        have ic:Hid (cb=true->sn.data.toList=Np.dR (Np.cT ⟨a.data.toList,l⟩) sc.data.toList sn.data.toList):=jq (λh=>by
         unfold Np.dR;rw[nu.out,h]; simp[gl,mw.out])
        have lF:Hid (cb=false->[]=Np.dR (Np.cT ⟨a.data.toList,l⟩) sc.data.toList sn.data.toList):=jq (λh=>by
         unfold Np.dR;rw[nu.out,h]; simp[gl,mw.out])
        clear gl;have jd:=vR.out w2 ak.out
        cases cb with
        | true=>
         go_wp2_with fail;go_roundw
         case rel=>exact⟨k+1,sn,by omega,by go_num,rfl,bL,jq (jC.out _ sn ak.out bL (ic.out (by simp))),jq (.inr iO.out),jq (by rw[ic.out (by simp)]; exact ck.out.2)⟩
         case measure=>simp[intOf] <;> omega
        | false=>
         go_wp2_with fail;go_roundw
         case rel=>exact⟨k+1,⟨#[]⟩,by omega,by go_num,rfl,by decide,jq (jC.out _ ⟨#[]⟩ ak.out (by decide) (lF.out (by simp))),jq (.inl rfl),jq (by rw[show (⟨#[]⟩:ByteArray).data.toList = [] from rfl,lF.out (by simp)]; exact ck.out.2)⟩
         case measure=>simp[intOf] <;> omega
     ·have Bb:k=l.length:=by omega
      have lR:Hid (B.take k++List.replicate (l.length - k) []=B):=jq (by rw[Bb,Nat.sub_self,List.replicate_zero,List.append_nil,kQ (by rw[eL.out]; exact bQ _)]);clear Bb;have g0:=HK.out.l0;have g1:=HK.out.l1;have r0:=HK.out.r0;have r1:=HK.out.r1;have r2:=HK.out.r2;have rf0:=HK.out.rf 0;have rf1:=HK.out.rf 1;have rf2:=HK.out.rf 2;go_wp2_with fail;obtain⟨w6,cr⟩:∃ w6,((wr.setCell ⟨w.heap.size+1,0,none⟩ (.string a)).setCell ⟨w.heap.size+1,1,none⟩ (.slice A l.length c)).setCell ⟨w.heap.size+1,2,none⟩ (.slice (some ⟨X0,0,none⟩) l.length l.length)=w6:=⟨_,rfl⟩;have q0:w6.cell? ⟨w.heap.size+1,0,none⟩=some (.string a):=by rw[<-cr]; simp[go_sem,r0]
      have q1:w6.cell? ⟨w.heap.size+1,1,none⟩=some (.slice A l.length c):=by rw[<-cr]; simp[go_sem,r1]
      have q2:w6.cell? ⟨w.heap.size+1,2,none⟩=some (.slice (some ⟨X0,0,none⟩) l.length l.length):=by rw[<-cr]; simp[go_sem,r2]
      have h1:=ku.out.map;have h2:=ku.out.row;have cY:Hid (Below w.heap.size w w6):=jq (by rw[<-cr]; exact ((HK.out.below.setCell (by simp) _).setCell (by simp) _).setCell (by simp) _);have I8:Hid (SlR RTx 1 w6 w6.heap.size (.slice (some ⟨X0,0,none⟩) l.length l.length) B):=jq (by
       have h3:=HK.out.row;rw[lR.out] at h3;have h4:=((h3.other (p:=⟨w.heap.size+1,0,none⟩) (by simp; omega) (.string a)).other (p:=⟨w.heap.size+1,1,none⟩) (by simp; omega) (.slice A l.length c)).other (p:=⟨w.heap.size+1,2,none⟩) (by simp; omega) (.slice (some ⟨X0,0,none⟩) l.length l.length);rw[cr] at h4;have h5:=h4.slr (by rw[<-cr]; simp; omega) (by rw[eL.out]; omega);rw[eL.out] at h5;exact h5)
      rw[cr];clear cr r0 r1 r2 rf0 rf1 rf2 g0 g1 no;refine bodyPost_ret (v:=.agg #[.string a,.slice A l.length c,.slice (some ⟨X0,0,none⟩) l.length l.length]) ?_ rfl ⟨⟨_,rfl,I8.out⟩,cY.out⟩;simp[results,results103,go_sem,q0,q1,q2]
theorem rK{w:World}{B n c:Nat}{A:Option Addr}{xs:List (List UInt8)}(h:SlR RTx 1 w B (.slice A n c) xs){k:Nat}{x:List UInt8}(hx:xs[k]?=some x):∃ (b o:Nat) (s:ByteArray),A=some ⟨b,o,none⟩/\b<B/\s.data.toList=x/\s.size<=140737488355328/\w.cell? ⟨b,o+k,none⟩=some (.string s):=by
 obtain⟨A',c',hv,hc,_,he⟩:=h;simp only[Value.slice.injEq] at hv;obtain⟨rfl,_,_⟩:=hv;obtain⟨b,o,e,rfl,hb,_,hce,s,h1,h2,rfl⟩:=he k x hx;exact⟨b,o,s,rfl,hb,h1,h2,by have:=hce 0 _ rfl; simpa using this⟩
def Np.qD(l:List Np.Signed)(B:List (List UInt8)):Prop:=∀ (i:Nat) (x:Np.Signed) (b:List UInt8),l[i]?=some x->B[i]?=some b->Np.lC x.set b
def Np.AO(l:List Np.Signed)(B:List (List UInt8)):Prop:=∀ (i:Nat) (x:Np.Signed) (b:List UInt8),l[i]?=some x->B[i]?=some b->b≠[]->x.set.type=2\/x.set.type=1->x.sigs = []
theorem MW{x:Np.DSet}{b:List UInt8}(hb:b = []):Np.lC x b↔x.type≠6:=by
 subst hb;exact⟨λh=>h.1 rfl,λh=>⟨λ_=>h,λh2=>absurd rfl h2,λh2=>absurd rfl h2⟩⟩
theorem Nz{x:Np.DSet}{b:List UInt8}(hb:b≠[])(he:b=x.name):Np.lC x b↔(x.type=2\/x.type=6\/x.type=8\/x.type=1):=
 ⟨λh=>h.2.1 hb he,λh=>⟨λh2=>absurd h2 hb,λ_ _=>h,λ_ h2=>absurd he h2⟩⟩
theorem MV{x:Np.DSet}{b:List UInt8}(hb:b≠[])(he:b≠x.name):Np.lC x b↔x.type=1:=
 ⟨λh=>h.2.2 hb he,λh=>⟨λh2=>absurd h2 hb,λ_ h2=>absurd h2 he,λ_ _=>h⟩⟩
theorem UY(a:ByteArray)(v bv:Value)(l:List Np.Signed)(B:List (List UInt8))(kE:B.length=l.length)(w:World)(hd:SlR bK 5 w w.heap.size v l)(jc:SlR RTx 1 w w.heap.size bv B) :
 Calls prog 105 #[.agg #[.string a,v,bv]] w λe w'=>e = .returned (.bool (Np.yes (Np.qD l B)))/\Below w.heap.size w w':=by
 obtain⟨r,hr⟩:∃ r,Np.yes (Np.qD l B)=r:=⟨_,rfl⟩;rw[hr];have HR:=jq hr;have eL:=jq kE;have HD:=jq hd;have kD:=jq jc;obtain⟨A,c,rfl,bC,bH⟩:=ag hd;obtain⟨A2,c2,rfl,eB,dz⟩:=ag jc;rw[kE] at eB dz kD |-;clear hr hd jc kE;have HW:Hid (∀ o,Below w.heap.size w (w.alloc o)):=jq (λo=>(vQ _ w).alloc (bQ _) _);go_enter func105,ntmps105;go_wp2_with fail;obtain⟨w1,al⟩:∃ w1,w.alloc (.cells #[.string a,.slice A l.length c,.slice A2 l.length c2] 163)=w1:=⟨_,rfl⟩;have c2':w1.cell? ⟨w.heap.size,2,none⟩=some (.slice A2 l.length c2):=by rw[<-al]; simp[go_sem]
 have fh:w.heap.size<w1.heap.size:=by rw[<-al]; simp
 have aF:Hid (Below w.heap.size w w1):=jq (by rw[<-al]; exact HW.out _);rw[al];clear al;go_loopw [11] (λi wr=>∃ k:Nat,k<=l.length/\i = .int .i64 k/\Hid (Below w1.heap.size w1 wr)/\Hid (∀ j x b,j<k->l[j]?=some x->B[j]?=some b->Np.lC x.set b)) (λi _=>l.length - (intOf i).toNat)
 case atStart=>exact⟨0,jQ _,rfl,jq (vQ _ _),jq (λj x b hj=>by omega)⟩
 case round=>
  obtain⟨k,hk,rfl,HB,HA⟩:=hrel;have an:=HB.out.size;have aD:=jq (aF.out.trans (HB.out.mono (by omega)));by_cases ab:k<l.length
  ·obtain⟨x,ac⟩:∃ x,l[k]?=some x:=⟨_,aQ ab⟩;obtain⟨bb,fy⟩:∃ bb,B[k]?=some bb:=⟨_,aQ (by rw[eL.out]; omega)⟩;obtain⟨b,o,c',sn,dv,sv,hA,bg,_,az,bL,bd,aL,e0,e1,e2,e3,e4⟩:=eT (HD.out.keep aV aD.out) ac
   cases hA
   obtain⟨b2,o2,sb,rfl,zJ,mZ,Jf,g0⟩:=rK (kD.out.keep jk aD.out) fy;have HN:Hid (Np.lC x.set bb->∀ j x b,j<k+1->l[j]?=some x->B[j]?=some b->Np.lC x.set b):=jq (λh j x b hj hx hb=>by
    by_cases e:j=k
    ·subst e; rw[ac] at hx; rw[fy] at hb; cases hx; cases hb; exact h
    ·exact HA.out j x b (by omega) hx hb)
   have HF:Hid (¬ Np.lC x.set bb->r=false):=jq (λh=>by
    rw[<-HR.out]; exact Np.aP λq=>h (q k _ _ ac fy))
   clear ac fy;obtain⟨Ad,cd,rfl,_,_⟩:=ag bd;obtain⟨As,cs,rfl,_,_⟩:=ag aL;have hcell:wr.cell? ⟨w.heap.size,2,none⟩=some (.slice (some ⟨b2,o2,none⟩) l.length c2):=(HB.out.cell (by dsimp only; omega)).trans c2';have dF:w.heap.size<wr.heap.size:=by omega
   have aq:b<wr.heap.size:=by omega
   have aa:b2<wr.heap.size:=by omega
   have br:Hid (∀ o,Below w1.heap.size w1 (wr.alloc o)):=jq (λo=>HB.out.alloc HB.out.size _);have qg:Hid (∀ o,Below w.heap.size w (wr.alloc o)):=jq (λo=>aD.out.alloc (by omega) _);have bW:(0:Int)<=(k:Int):=by omega
   have bV:(k:Int)<(l.length:Int):=by omega
   have aS:=jq az;have eu:=jq mZ;obtain⟨ty,dD⟩:∃ ty,x.set.type=ty:=⟨_,rfl⟩;have go:=jq dD;rw[dD] at e1;clear az mZ bd aL dD;by_cases di:bb = []
   ·obtain rfl:sb=⟨#[]⟩:=iV (by rw[eu.out,di]);have bZ:=jq (MW (x:=x.set) di);clear di;by_cases h6:ty=6
    ·have HX:Hid (r=false):=jq (HF.out λh=>(bZ.out.1 h) (go.out.trans h6));subst h6;go_wp2_with fail;go_ret;exact⟨aj HX.out.symm,qg.out _⟩
    ·have HX:=jq (HN.out (bZ.out.2 λh=>h6 (go.out.symm.trans h)));have h6':(ty == 6)=false:=by simpa using h6
     clear h6;go_wp2_with fail;go_roundw
     case rel=>exact⟨k+1,by omega,by go_num,jq (br.out _),jq HX.out⟩
     case measure=>simp[intOf] <;> omega
   ·have Cb:(sb.toList == [])=false:=by rw[dQ,eu.out]; simpa using di
    by_cases jV:bb=x.set.name
    ·have KC:(sb.toList == sn.toList)=true:=by rw[dQ,dQ,eu.out,aS.out]; simpa using jV
     have bZ:=jq (Nz (x:=x.set) di jV);clear di jV;by_cases ht:ty=2\/ty=6\/ty=8\/ty=1
     ·have HX:=jq (HN.out (bZ.out.2 (by rw[go.out]; exact ht)));rcases ht with rfl | rfl | rfl | rfl
      all_goals
       go_wp2_with fail;go_roundw
       case rel=>exact⟨k+1,by omega,by go_num,jq (br.out _),jq HX.out⟩
       case measure=>simp[intOf] <;> omega
     ·have HX:Hid (r=false):=jq (HF.out λh=>ht (by have:=bZ.out.1 h; rwa [go.out] at this));have t1:(ty != 2)=true:=by simp; omega
      have t2:(ty != 6)=true:=by simp; omega
      have t3:(ty != 8)=true:=by simp; omega
      have t4:(ty != 1)=true:=by simp; omega
      clear ht;go_wp2_with fail;go_ret;exact⟨aj HX.out.symm,qg.out _⟩
    ·have KC:(sb.toList == sn.toList)=false:=by rw[dQ,dQ,eu.out,aS.out]; simpa using jV
     have bZ:=jq (MV (x:=x.set) di jV);clear di jV;by_cases ht:ty=1
     ·have HX:=jq (HN.out (bZ.out.2 (by rw[go.out]; exact ht)));subst ht;go_wp2_with fail;go_roundw
      case rel=>exact⟨k+1,by omega,by go_num,jq (br.out _),jq HX.out⟩
      case measure=>simp[intOf] <;> omega
     ·have HX:Hid (r=false):=jq (HF.out λh=>ht (by have:=bZ.out.1 h; rwa [go.out] at this));have t4:(ty != 1)=true:=by simpa using ht
      clear ht;go_wp2_with fail;go_ret;exact⟨aj HX.out.symm,qg.out _⟩
  ·go_wp2_with fail;go_ret;refine⟨aj ?_,aD.out⟩;rw[<-HR.out];exact (Np.bO λi x b hx hb=>HA.out i x b (by have:=(cQ.1 hx).1; omega) hx hb).symm
def vI(l:List UInt8)(j:Nat):Prop:=∃ c,l[j]?=some c/\(Np.qC c=true\/Np.nI c=true\/(c=45/\0<j/\j+1<l.length))
theorem Pz{c:UInt8}(h:Np.qC c=true\/Np.nI c=true):c≠45:=by rintro rfl; revert h; decide
theorem WF{l:List UInt8}(h:∀ j,j<l.length->vI l j):Np.cF l=(decide (1<=l.length)&&decide (l.length<=12)):=by
 have ax:l.all Np.mG=true:=by
  rw[List.all_eq_true];intro c hc;obtain⟨j,hj,rfl⟩:=nQ.1 hc;obtain⟨c,e,ho⟩:=h j hj;rw[aQ hj] at e;simp only[Option.some.injEq] at e;rw[e];unfold Np.mG;rcases ho with ho | ho | ⟨ho,_⟩ <;> simp[ho]
 unfold Np.cF;rw[ax,Bool.and_true];by_cases h1:1<=l.length
 ·have hh:∀ j,j<l.length->j=0\/j+1=l.length->l[j]?≠some 45:=by
   intro j hj he hc;obtain⟨c,e,ho⟩:=h j hj;rw[hc] at e;simp only[Option.some.injEq] at e;subst e;rcases ho with ho | ho | ⟨_,h2,h3⟩
   ·exact Pz (.inl ho) rfl
   ·exact Pz (.inr ho) rfl
   ·omega
  have h2:(l.head? == some 45)=false:=by rw[List.head?_eq_getElem?]; simpa using hh 0 (by omega) (.inl rfl)
  have h3:(l.getLast? == some 45)=false:=by rw[List.getLast?_eq_getElem?]; simpa using hh (l.length - 1) (by omega) (.inr (by omega))
  rw[h2,h3]; simp
 ·rw[tQ h1]; rfl
theorem Nu{l:List UInt8}{j:Nat}(hj:j<l.length)(h:¬ vI l j):Np.cF l=false:=by
 cases hl:Np.cF l with
 | false=>rfl
 | true=>
  exfalso;unfold Np.cF at hl;simp only[Bool.and_eq_true,Qa,Bool.not_eq_true',beq_eq_false_iff_ne] at hl;obtain⟨⟨⟨_,h2⟩,h3⟩,h4⟩:=hl;have hb:=List.all_eq_true.1 h4 l[j] (List.getElem_mem hj);refine h ⟨l[j],aQ hj,?_⟩;simp only[Np.mG,Bool.or_eq_true,beq_iff_eq] at hb;rcases hb with (hb | hb) | hb
  ·exact .inl hb
  ·exact .inr (.inl hb)
  ·refine .inr (.inr ⟨hb,?_,?_⟩)
   ·refine Nat.pos_of_ne_zero λe=>?_;subst e;rw[List.head?_eq_getElem?,aQ hj,hb] at h2;exact h2 rfl
   ·refine Nat.lt_of_not_le λe=>?_
    have:j=l.length - 1:=by omega
    rw[List.getLast?_eq_getElem?,<-this,aQ hj,hb] at h3;exact h3 rfl
theorem YM(s:ByteArray)(k:Nat)(hk:k<s.size):vI s.data.toList k↔((97<=(s[k].toNat:Int)/\(s[k].toNat:Int)<=122)\/(48<=(s[k].toNat:Int)/\(s[k].toNat:Int)<=57)\/((s[k].toNat:Int)=45/\0<k/\k+1<s.size)):=by
 unfold vI;rw[yl s k hk];simp only[Option.some.injEq,exists_eq_left'];have uk:s[k]=45↔(s[k].toNat:Int)=45:=by
  constructor
  ·intro h; rw[h]; rfl
  ·intro h; apply UInt8.toNat_inj.1; have:s[k].toNat=45:=by omega
   rw[this]; rfl
 rw[uk,bn];unfold Np.qC Np.nI;simp only[Bool.and_eq_true,Qa,UInt8.le_iff_toNat_le];have e1:(97:UInt8).toNat=97:=rfl;have e2:(122:UInt8).toNat=122:=rfl;have e3:(48:UInt8).toNat=48:=rfl;have e4:(57:UInt8).toNat=57:=rfl;rw[e1,e2,e3,e4];omega
theorem UF(s:ByteArray)(hs:s.size<=140737488355328)(w:World) :
 Calls prog 80 #[.string s] w λe w'=>e = .returned (.bool (Np.cF s.data.toList))/\w=w':=by
 go_enter func80,ntmps80;go_wp2;go_loop [3] (λi=>∃ k:Nat,k<=s.size/\i = .int .i64 k/\Hid (∀ j,j<k->vI s.data.toList j)) (λi=>s.size - (intOf i).toNat)
 case atStart=>exact⟨0,jQ _,rfl,jq (λj h=>by omega)⟩
 case round=>
  obtain⟨k,hk,rfl,HA⟩:=hrel;by_cases ab:k<s.size
  ·have hb:=yy s[k];have HN:=jq (YM s k ab);have BD:vI s.data.toList k->∀ j,j<k+1->vI s.data.toList j:=λh j hj=>by
    by_cases e:j=k
    ·subst e; exact h
    ·exact HA.out j (by omega)
   have HX:=jq BD;clear BD;have bW:(0:Int)<=k:=by omega
   by_cases uk:(s[k].toNat:Int)=45
   ·have hE:((s[k].toNat:Int) == 45)=true:=by simp[uk]
    have Ki:=jq uk;have nP:(s[k].toNat:Int)<48:=by omega
    have bhX:(s[k].toNat:Int)<97:=by omega
    clear uk;by_cases hin:0<k/\k+1<s.size
    ·obtain⟨h1,h2⟩:=hin;have h3:(0:Int)<k:=by omega
     have h4:(k:Int)<(s.size:Int) - 1:=by omega
     go_wp2;go_round
     case rel=>exact⟨k+1,by omega,by go_num,jq (HX.out (HN.out.2 (.inr (.inr ⟨Ki.out,h1,h2⟩))))⟩
     case measure=>simp[intOf] <;> omega
    ·have HI:=jq hin;clear hin;go_wp2
     all_goals first
      | (go_ret
         exact⟨aj (Nu (by rw[bn]; exact ab) (λh=>by have:=HN.out.1 h; have:=HI.out; omega)).symm,rfl⟩)
      | (exfalso; have:=HI.out; omega)
   ·have hE:((s[k].toNat:Int) == 45)=false:=by simp[uk]
    have Ki:=jq uk;clear uk;go_wp2
    all_goals first
     | (go_ret
        exact⟨aj (Nu (by rw[bn]; exact ab) (λh=>by have:=HN.out.1 h; have:=Ki.out; omega)).symm,rfl⟩)
     | (go_round
        case rel=>exact⟨k+1,by omega,by go_num,jq (HX.out (HN.out.2 (by omega)))⟩
        case measure=>simp[intOf] <;> omega)
  ·have hf:Np.cF s.data.toList=(decide (1<=s.size)&&decide (s.size<=12)):=WF (λj hj=>HA.out j (by rw[bn] at hj; omega));have HF:=jq hf;clear hf;go_wp2
   all_goals
    go_ret;exact⟨aj (by rw[HF.out,Bool.eq_iff_iff]; simp; omega),rfl⟩
theorem Vj(s:ByteArray)(hs:s.size<=140737488355328)(w:World) :
 Calls prog 228 #[.string s] w λe w'=>e = .returned (.bool (Np.ke s.data.toList))/\w=w':=by
 go_enter func228,ntmps228;go_wp2
 all_goals first
  | (go_ret; exact⟨aj (OL s ‹_›).symm,rfl⟩)
  | (go_ret; exact⟨aj (OK s ‹_›).symm,rfl⟩)
  | (go_ret; exact⟨aj (OJ s (by omega) ‹_›).symm,rfl⟩)
  | (have h:((s[s.size - 1].toNat:Int) == 32)=true:=by assumption
     go_ret;exact⟨aj (OI s (by omega) (by simpa using h)).symm,rfl⟩)
  | skip
 ·have h2:(s.size:Int)<=40:=by assumption
  have h3:¬ (s[0].toNat:Int)=32:=by assumption
  have h4:((s[s.size - 1].toNat:Int) == 32)=false:=by assumption
  have H4:=jq h4;clear h4;have H3:=jq h3;go_loop [4] (λi=>∃ k:Nat,k<=s.size/\i = .int .i64 k/\(s.data.toList.take k).all Np.oD=true) (λi=>s.size - (intOf i).toNat)
  case atStart=>exact⟨0,jQ _,rfl,rfl⟩
  case round=>
   obtain⟨k,hk,rfl,ha⟩:=hrel;have HA:=jq ha;clear ha;by_cases ab:k<s.size
   ·have hb:=yy s[k];by_cases hf:(97<=(s[k].toNat:Int)/\(s[k].toNat:Int)<=122)\/(48<=(s[k].toNat:Int)/\(s[k].toNat:Int)<=57)\/(s[k].toNat:Int)=32
    ·have hl:Np.oD s[k]=true:=by rw[Dl]; exact uQ hf
     have HL:=jq hl;clear hl;go_wp2
     all_goals first
      | (go_round
         case rel=>exact⟨k+1,by omega,by go_num,Ht s k ab _ HA.out HL.out⟩
         case measure=>simp[intOf] <;> omega)
      | (exfalso
         have hne:((s[k].toNat:Int) != 32)=true:=by assumption
         have Cx:=bne_iff_ne.1 hne;omega)
    ·have hl:Np.oD s[k]=false:=by rw[Dl]; exact tQ hf
     have HL:=jq hl;clear hl;go_wp2
     all_goals first
      | (go_ret; exact⟨aj (OH s k ab HL.out).symm,rfl⟩)
      | (exfalso; omega)
      | (exfalso
         have hne:((s[k].toNat:Int) != 32)=false:=by assumption
         have Cx:(s[k].toNat:Int)=32:=by simpa using hne
         omega)
   ·go_wp2;go_ret;exact⟨aj (OG s (by omega) (by omega) H3.out (by simpa using H4.out) (by have:=HA.out; rwa [DK s k (by omega)] at this)).symm,rfl⟩
theorem Dj(s:ByteArray)(hs:s.size<=140737488355328)(w:World) :
 Calls prog 178 #[.string s] w λe w'=>e = .returned (.bool (Np.fp s.data.toList))/\w=w':=by
 by_cases h0:0<s.size
 ·have he:((s[0].toNat:Int) == 42)=Np.fp s.data.toList:=by
   unfold Np.fp;rw[Ai s h0]
   have:=oK s[0] 42 (by decide)
   rw[Bool.eq_iff_iff] at this |-;simp only[beq_iff_eq,Qa,Option.some.injEq] at this |-;exact this.symm
  have HE:=jq he;clear he;go_enter func178,ntmps178;go_wp2
  all_goals
   go_ret;exact⟨aj HE.out,rfl⟩
 ·have he:Np.fp s.data.toList=false:=by
   have:s.data.toList = []:=rQ (by rw[bn]; omega)
   rw[this]; rfl
  have HE:=jq he;clear he;go_enter func178,ntmps178;go_wp2
  all_goals
   go_ret;exact⟨aj HE.out.symm,rfl⟩
theorem L0(x lo hi:Int)(w:World) :
 Calls prog 176 #[.int .i64 x,.int .i64 lo,.int .i64 hi] w λe w'=>e = .returned (.bool (decide (lo<=x)&&decide (x<=hi)))/\w=w':=by
 by_cases h1:lo<=x
 all_goals
  go_enter func176,ntmps176;go_wp2;go_ret;exact⟨aj (by simp; omega),rfl⟩
theorem T5(x:Int)(w:World) :
 Calls prog 177 #[.int .i64 x] w λe w'=>e = .returned (.bool (decide (x=3)||decide (x=4)))/\w=w':=by
 by_cases h1:x=3
 ·subst h1;go_enter func177,ntmps177;go_wp2;go_ret;exact⟨rfl,rfl⟩
 ·have h2:(x == 3)=false:=by simpa using h1
  go_enter func177,ntmps177;go_wp2;go_ret;refine⟨aj ?_,rfl⟩;rw[tQ h1,Bool.false_or];rfl
theorem Vl(s t:ByteArray)(n1 m1 n2 m2:Int)(w:World) :
 Calls prog 180 #[.agg #[.string s,.int .i64 n1,.int .i64 m1],.agg #[.string t,.int .i64 n2,.int .i64 m2]] w
  λe w'=>e = .returned (.bool (decide (Np.qG ⟨s.data.toList,n1,m1⟩ ⟨t.data.toList,n2,m2⟩<0)))/\Below w.heap.size w w':=by
 rw[<-Np.XN];have hw:∀ o o',Below w.heap.size w ((w.alloc o).alloc o'):=λo o'=>((vQ _ w).alloc (bQ _) _).alloc (by simp) _;have HW:=jq hw;clear hw;go_enter func180,ntmps180;go_wp2
 all_goals
  go_ret;refine⟨aj ?_,HW.out _ _⟩;go_light;simp_all [Np.Io,dQ]
end
end Go.Proofs.YtbfbobfbgabjiaaGreatDoor
