/- Parts of the proof. No condition. -/
import Derived.Test.YtfnopgdcaanaiaaGreatDoorW06
import Derived.Test.YtfnopgdcaanaiaaGreatDoorW07
set_option linter.all false
set_option maxRecDepth 100000
set_option maxHeartbeats 8000000
namespace Go.Proofs.YtfnopgdcaanaiaaGreatDoor
open Go.Proofs.Tryz
section
open Go.RowKit
def RTx(_:World)(_:Nat)(e:List Value)(x:List UInt8):Prop:=∃ s:ByteArray,s.data.toList=x/\s.size<=140737488355328/\e = [.string s]
theorem nT:dL RTx:=λ_ _ _ _ _ h _=>h
theorem PV:dZ RTx:=λ_ _ _ _ _ h _=>h
def gv(a:List UInt8)(l:List Np.Signed):List (List UInt8×Value):=(l.filter λx=>decide (x.set.type=2)&&!(x.set.name == a)).map λx=>(x.set.name,.bool true)
theorem Uq(a:List UInt8)(l:List Np.Signed)(x:Np.Signed):gv a (l ++ [x])=if x.set.type=2/\x.set.name≠a then gv a l ++ [(x.set.name,.bool true)] else gv a l:=by
 unfold gv;rw[List.filter_append];by_cases h1:x.set.type=2 <;> by_cases h2:x.set.name=a <;> simp[h1,h2]
theorem Up(a:List UInt8)(l:List Np.Signed)(x:Np.Signed):gv a (x::l)=if x.set.type=2/\x.set.name≠a then (x.set.name,.bool true)::gv a l else gv a l:=by
 unfold gv;by_cases h1:x.set.type=2 <;> by_cases h2:x.set.name=a <;> simp[h1,h2]
theorem C0(a:List UInt8)(n:List UInt8):∀ l:List Np.Signed,((gv a l).lookup n).getD (.bool false) = .bool (Np.cR ⟨a,l⟩ n)/\((∀ x∈l,x.set.type=2->x.set.name≠n)->(gv a l).lookup n=none)
 | []=>⟨rfl,λ_=>rfl⟩
 | x::l=>by
   obtain⟨i1,i2⟩:=C0 a n l;have e:Np.cR ⟨a,x::l⟩ n=((decide (x.set.type=2)&&!(x.set.name == a)&&x.set.name == n)||Np.cR ⟨a,l⟩ n):=rfl;rw[Up];split
   ·rename_i h;by_cases hn:x.set.name=n
    ·rw[hn,List.lookup_cons_self];refine⟨?_,λhh=>absurd hn (hh x (by simp) h.1)⟩;rw[e];have h2:=h.2;rw[hn] at h2 |-;simp[h.1,h2]
    ·have hb:(n == x.set.name)=false:=by simpa using λe=>hn e.symm
     rw[List.lookup_cons,hb];refine⟨?_,λhh=>i2 λy hy=>hh y (mQ _ hy)⟩;have ae:(x.set.name == n)=false:=by simpa using hn
     rw[e,ae,Bool.and_false,Bool.false_or];exact i1
   ·rename_i h;refine⟨?_,λhh=>i2 λy hy=>hh y (mQ _ hy)⟩;have hf:(decide (x.set.type=2)&&!(x.set.name == a))=false:=by
     rw[Bool.and_eq_false_iff];by_cases h1:x.set.type=2
     ·right
      have:x.set.name=a:=Decidable.not_not.1 λh2=>h ⟨h1,h2⟩
      simp[this]
     ·left;simpa using h1
    rw[e,hf,Bool.false_and,Bool.false_or];exact i1
theorem Jc(n j:Nat)(hj:j<n):(madeCells #[Value.string ⟨#[]⟩] n)[j]?=some (.string ⟨#[]⟩):=by
 unfold madeCells;simp[hj,Nat.mod_one]
theorem Tryz.infoStrZ:(prog.info? 9).map (λi=>(i.zero,i.size,i.bytes))=some (some (.string ⟨#[]⟩),1,16):=by kernel_rfl
theorem Jd(n:Nat)(hn:n<=20000)(w:World):(Instr.makeSlice 116 (.int .i64 n) (.int .i64 n)).run prog w = .ok (.slice (some ⟨w.heap.size,0,none⟩) n n) (w.alloc (.cells (madeCells #[Value.string ⟨#[]⟩] n) 9)):=by
 obtain⟨i,hi,hp⟩:=Option.map_eq_some_iff.1 Tryz.infoStrZ;simp only[Prod.mk.injEq] at hp;obtain⟨hz,hs,hb⟩:=hp
 have:=run_make (P:=prog) w 116 9 i (.string ⟨#[]⟩) underlying116 hi hz .i64 .i64 n n (by omega) (Int.le_refl _) (by rw[hb];omega) (by omega)
 rw[hs] at this;simpa [Value.cells] using this
def fC(w:World)(B:Nat)(xs:List (List UInt8)):Prop:=∀ j x,xs[j]?=some x->∃ s:ByteArray,s.data.toList=x/\s.size<=140737488355328/\w.cell? ⟨B,j,none⟩=some (.string s)/\w.frozen? ⟨B,j,none⟩=false
theorem fC.keep{w w':World}{B n:Nat}{xs:List (List UInt8)}(h:fC w B xs)(hb:Below n w w')(hB:B<n):fC w' B xs:=λj x hx=>by
 obtain⟨s,h1,h2,h3,h4⟩:=h j x hx;exact⟨s,h1,h2,(hb.cell (p:=⟨B,j,none⟩) hB).trans h3,(hb.frozen (p:=⟨B,j,none⟩) hB).trans h4⟩
theorem fC.store{w:World}{B:Nat}{xs:List (List UInt8)}(h:fC w B xs){k:Nat}(hk:k<xs.length)(s:ByteArray)(hs:s.size<=140737488355328):fC (w.setCell ⟨B,k,none⟩ (.string s)) B (xs.set k s.data.toList):=λj x hx=>by
 rw[List.getElem?_set] at hx;by_cases Be:k=j
 ·subst Be;rw[Qb rfl,Qb hk] at hx
  cases hx
  obtain⟨s0,_,_,h3,h4⟩:=h k _ (aQ hk);exact⟨s,rfl,hs,by simp[World.cell?_setCell_same,h3],(World.frozen?_setCell _ _ _ _).trans h4⟩
 ·rw[Qc Be] at hx;obtain⟨s0,h1,h2,h3,h4⟩:=h j x hx;exact⟨s0,h1,h2,by rw[xQ _ _ _ _ (by simp <;> omega)];exact h3,(World.frozen?_setCell _ _ _ _).trans h4⟩
theorem fC.other{w:World}{B:Nat}{xs:List (List UInt8)}(h:fC w B xs){p:Addr}(hp:p.block≠B)(u:Value):fC (w.setCell p u) B xs:=λj x hx=>by
 obtain⟨s,h1,h2,h3,h4⟩:=h j x hx;exact⟨s,h1,h2,(xQ _ _ _ _ (λe=>hp (by rw[e]))).trans h3,(World.frozen?_setCell _ _ _ _).trans h4⟩
theorem fC.slr{w:World}{B:Nat}{xs:List (List UInt8)}(h:fC w B xs)(hB:B<w.heap.size)(hl:xs.length<=140737488355328):SlR RTx 1 w w.heap.size (.slice (some ⟨B,0,none⟩) xs.length xs.length) xs:=
 ⟨_,_,rfl,bQ _,hl,λj x hx=>by
  obtain⟨s,h1,h2,h3,_⟩:=h j x hx;refine⟨B,0,[.string s],rfl,hB,rfl,λi v hv=>?_,s,h1,h2,rfl⟩
  match i,hv with
  | 0,hv=>cases hv;simpa using h3⟩
theorem PO{bs:List (List UInt8)}{n k:Nat}{b:List UInt8}(hn:bs.length=n)(hb:bs[k]?=some b):(bs.take k++List.replicate (n - k) []).set k b=bs.take (k+1)++List.replicate (n - (k+1)) []:=by
 obtain⟨hk,rfl⟩:=cQ.1 hb;have e:n - k=(n - (k+1))+1:=by omega
 rw[e,List.replicate_succ,List.set_append_right _ _ (by rw[List.length_take];omega),List.length_take,show k - min k bs.length=0 by omega,List.set_cons_zero,fQ hk,List.append_assoc];rfl
structure LayK(w:World)(M Bl Bs:Nat)(a:ByteArray)(v sl:Value)(kv:List (List UInt8×Value))(wr:World)(bs:List (List UInt8)):Prop where
 below:Below w.heap.size w wr
 b0:wr.cell? ⟨w.heap.size,0,none⟩=some (.string a)
 b1:wr.cell? ⟨w.heap.size,1,none⟩=some v
 r0:wr.cell? ⟨w.heap.size+1,0,none⟩=some (.string ⟨#[]⟩)
 r1:wr.cell? ⟨w.heap.size+1,1,none⟩=some (.slice none 0 0)
 r2:wr.cell? ⟨w.heap.size+1,2,none⟩=some (.slice none 0 0)
 l0:wr.cell? ⟨Bl,0,none⟩=some (.string a)
 l1:wr.cell? ⟨Bl,1,none⟩=some v
 l2:wr.cell? ⟨Bl,2,none⟩=some sl
 map:dj M kv wr
 row:fC wr Bs bs
 blt:Bl<wr.heap.size
 slt:Bs<wr.heap.size
 rf:∀ j,wr.frozen? ⟨w.heap.size+1,j,none⟩=false
structure LayB(n M Bl Bs:Nat):Prop where
 map:n+2=M
 lay:M<Bl
 row:M<Bs
 ne:Bl≠Bs
theorem LayK.keep{w:World}{M Bl Bs:Nat}{a:ByteArray}{v sl:Value}{kv:List (List UInt8×Value)}{wr wx:World}{bs:List (List UInt8)}(h:LayK w M Bl Bs a v sl kv wr bs)(hB:LayB w.heap.size M Bl Bs)(hb:Below wr.heap.size wr wx):LayK w M Bl Bs a v sl kv wx bs:=by
 have h1:=hB.map;have h2:=hB.lay;have h3:=h.blt;have h4:=h.slt;have h5:=h.map.lt;have an:=hb.size;exact⟨h.below.trans (hb.mono h.below.size),(hb.cell (by simp <;> omega)).trans h.b0,(hb.cell (by simp <;> omega)).trans h.b1,(hb.cell (by simp <;> omega)).trans h.r0,(hb.cell (by simp <;> omega)).trans h.r1,(hb.cell (by simp <;> omega)).trans h.r2,
  (hb.cell (by simp <;> omega)).trans h.l0,(hb.cell (by simp <;> omega)).trans h.l1,(hb.cell (by simp <;> omega)).trans h.l2,h.map.keep hb h5,h.row.keep hb h4,by omega,by omega,λj=>(hb.frozen (by simp <;> omega)).trans (h.rf j)⟩
theorem dj.setCell{r:Nat}{kvs:List (List UInt8×Value)}{w:World}(h:dj r kvs w){p:Addr}(hp:p.block≠r)(u:Value):dj r kvs (w.setCell p u):=by
 obtain⟨es,c,h1,h2⟩:=h;exact⟨es,c,(wQ _ _ _ _ (λe=>hp e.symm)).trans h1,h2⟩
theorem LayK.store{w:World}{M Bl Bs:Nat}{a:ByteArray}{v sl:Value}{kv:List (List UInt8×Value)}{wr:World}{bs:List (List UInt8)}(h:LayK w M Bl Bs a v sl kv wr bs)(hB:LayB w.heap.size M Bl Bs){k:Nat}(hk:k<bs.length)(s:ByteArray)(hs:s.size<=140737488355328):LayK w M Bl Bs a v sl kv (wr.setCell ⟨Bs,k,none⟩ (.string s)) (bs.set k s.data.toList):=by
 have h1:=hB.map;have h2:=hB.lay;have h3:=hB.row;have h4:=hB.ne;exact⟨h.below.setCell (by simp <;> omega) _,(xQ _ _ _ _ (by simp <;> omega)).trans h.b0,(xQ _ _ _ _ (by simp <;> omega)).trans h.b1,(xQ _ _ _ _ (by simp <;> omega)).trans h.r0,(xQ _ _ _ _ (by simp <;> omega)).trans h.r1,(xQ _ _ _ _ (by simp <;> omega)).trans h.r2,
  (xQ _ _ _ _ (by simp <;> omega)).trans h.l0,(xQ _ _ _ _ (by simp <;> omega)).trans h.l1,(xQ _ _ _ _ (by simp <;> omega)).trans h.l2,h.map.setCell (by simp <;> omega) _,h.row.store hk s hs,by simpa using h.blt,by simpa using h.slt,λj=>(World.frozen?_setCell _ _ _ _).trans (h.rf j)⟩
def Lv(w:World)(M Bl Bs:Nat)(a:ByteArray)(v sl:Value)(kv:List (List UInt8×Value))(B:List (List UInt8))(C:List UInt8->Bool)(l:List Np.Signed)(vc i:Value)(wr:World):Prop:=
 ∃ (k:Nat) (sc:ByteArray),k<=l.length/\i = .int .i64 k/\vc = .string sc/\sc.size<=140737488355328/\Hid (LayK w M Bl Bs a v sl kv wr (B.take k++List.replicate (l.length - k) []))/\Hid (sc.data.toList = []\/Np.aA sc.data.toList=true)/\Hid (B.drop k=Np.oD C sc.data.toList (l.drop k))
def LayA(M:Nat)(w1:World)(a:List UInt8)(l:List Np.Signed)(i:Value)(wr:World):Prop:=
 ∃ k:Nat,k<=l.length/\i = .int .i64 k/\Hid (Below M w1 wr)/\Hid (dj M (gv a (l.take k)) wr)
theorem YU(a:ByteArray)(v:Value)(l:List Np.Signed)(cg:l.length<=20000)(hv:∀ x∈l,Np.aA x.set.name=true)(hs:Np.uJ l)(w:World)(hd:SlR bP 5 w w.heap.size v l) :
 Calls prog 200 #[.agg #[.string a,v]] w λe w'=>(∃ bv,e = .returned (.agg #[.string a,v,bv])/\SlR RTx 1 w' w'.heap.size bv (Np.ea ⟨a.data.toList,l⟩))/\Below w.heap.size w w':=by
 obtain⟨B,De⟩:=aCQ (Np.ea ⟨a.data.toList,l⟩);rw[De];have dE:=jq De;have fy:Hid (B.length=l.length):=jq (by rw[<-De];exact Np.sX _);clear De;have HV:=jq hv;have HS:=jq hs;have HD:=jq hd;obtain⟨A,c,rfl,bq,bN⟩:=ak hd;clear hv hs hd;have lN:∀ (w:World),(Instr.makeMap 111 none).run prog w = .ok (.map (some w.heap.size)) (w.alloc (.map #[] 0)):=λw=>by
  simp[Instr.makeMap,Result.andThen]
 have HW:Hid (∀ o o' o'',Below w.heap.size w (((w.alloc o).alloc o').alloc o'')):=jq (λo o' o''=>(((vQ _ w).alloc (bQ _) _).alloc (by simp) _).alloc (by simp;omega) _);go_enter func200,ntmps200;go_wp2_with fail;obtain⟨w1,ah⟩:=aCQ (((w.alloc (.cells #[.string a,.slice A l.length c] 263)).alloc (.cells #[.string ⟨#[]⟩,.slice none 0 0,.slice none 0 0] 265)).alloc (.map #[] 0));have c0:w1.cell? ⟨w.heap.size,0,none⟩=some (.string a):=by rw[<-ah];simp[go_sem]
 have c1:w1.cell? ⟨w.heap.size,1,none⟩=some (.slice A l.length c):=by rw[<-ah];simp[go_sem]
 have e0:w1.cell? ⟨w.heap.size+1,0,none⟩=some (.string ⟨#[]⟩):=by rw[<-ah];simp[go_sem]
 have e1:w1.cell? ⟨w.heap.size+1,1,none⟩=some (.slice none 0 0):=by rw[<-ah];simp[go_sem]
 have e2:w1.cell? ⟨w.heap.size+1,2,none⟩=some (.slice none 0 0):=by rw[<-ah];simp[go_sem]
 have eh:w1.heap.size=w.heap.size+3:=by rw[<-ah];simp
 have Cp:Hid (dj (w.heap.size+1+1) [] w1):=jq (by
  have:=dj.made ((w.alloc (.cells #[.string a,.slice A l.length c] 263)).alloc (.cells #[.string ⟨#[]⟩,.slice none 0 0,.slice none 0 0] 265))
  rw[<-ah];simpa using this)
 have aq:Hid (Below w.heap.size w w1):=jq (by rw[<-ah];exact HW.out _ _ _);have RL:Hid (∀ j,w1.frozen? ⟨w.heap.size+1,j,none⟩=false):=jq (λj=>by rw[<-ah];simp[go_sem]);have HC:=jq (And.intro c0 (And.intro c1 (And.intro e0 (And.intro e1 e2))));rw[ah];clear ah c0 c1 e0 e1 e2;obtain⟨M,hM⟩:=aCQ (w.heap.size+1+1);rw[hM] at Cp |-;go_loopw [18] (λi wr=>LayA M w1 a.data.toList l i wr) (λi _=>l.length - (intOf i).toNat)
 case atStart=>exact⟨0,jQ _,rfl,jq (vQ _ _),Cp⟩
 case round=>
  obtain⟨k,hk,rfl,HB,HM⟩:=hrel;have an:=HB.out.size;obtain⟨c0,c1,e0,e1,e2⟩:=HC.out;have d0:wr.cell? ⟨w.heap.size,0,none⟩=some (.string a):=by rw[HB.out.cell (by simp;omega)];exact c0
  have d1:wr.cell? ⟨w.heap.size,1,none⟩=some (.slice A l.length c):=by rw[HB.out.cell (by simp;omega)];exact c1
  have qz:=HM.out.lt;have dJ:w.heap.size<wr.heap.size:=by omega
  have az:Hid (Below w.heap.size w wr):=aBY aq HB.out;have RO:Hid (∀ j,wr.frozen? ⟨w.heap.size+1,j,none⟩=false):=jq (λj=>(HB.out.frozen (p:=⟨w.heap.size+1,j,none⟩) (by dsimp only;omega)).trans (RL.out j));have lZ:Hid (wr.cell? ⟨w.heap.size+1,0,none⟩=some (.string ⟨#[]⟩)/\wr.cell? ⟨w.heap.size+1,1,none⟩=some (.slice none 0 0)/\wr.cell? ⟨w.heap.size+1,2,none⟩=some (.slice none 0 0)):=jq ⟨(HB.out.cell (by dsimp only;omega)).trans e0,(HB.out.cell (by dsimp only;omega)).trans e1,(HB.out.cell (by dsimp only;omega)).trans e2⟩;clear c0 c1 e0 e1 e2;by_cases aa:k<l.length
  ·have ac:=aQ aa;obtain⟨b,o,c',sn,dv,sv,hA,bR,_,ar,cZ,aO,bh,f0,f1,f2,f3,f4⟩:=fR (HD.out.keep bH az.out) ac
   cases hA
   have ht:l.take (k+1)=l.take k ++ [l[k]]:=fQ aa;have Sb:Hid (l[k].set.type=2->(gv a.data.toList (l.take k)).lookup sn.data.toList=none):=jq (λh2=>by
    refine (C0 _ _ _).2 λy hy h3 he=>?_;obtain⟨j,hj,rfl⟩:=nQ.1 hy;rw[List.length_take] at hj;have h4:=Jz HS.out (aQ (show j<l.length by omega)) ac (by omega);rw[List.getElem_take] at h3 he;have h5:Np.eN l[j].set=Np.eN l[k].set:=by unfold Np.eN;rw[h3,h2,he,ar]
    rw[h5,Np.yF.self] at h4;omega)
   have HT:Hid (∀ kv,(if l[k].set.type=2/\l[k].set.name≠a.data.toList then gv a.data.toList (l.take k) ++ [(l[k].set.name,.bool true)] else gv a.data.toList (l.take k))=kv->gv a.data.toList (l.take (k+1))=kv):=jq (λkv h=>by rw[ht,Uq];exact h);generalize hx:l[k]=x at *;clear hx ht;obtain⟨Ad,cd,rfl,_,_⟩:=ak aO;obtain⟨As,cs,rfl,_,_⟩:=ak bh;have aS:=jq ar;have eT:Hid (∀ o,Below wr.heap.size wr (wr.alloc o)):=jq (λo=>(vQ _ _).alloc (bQ _) _);have aY:Hid (∀ o,Below M w1 (wr.alloc o)):=jq (λo=>HB.out.alloc (by omega) _);clear ac ar aO bh;by_cases h2:x.set.type=2
   ·have ae:(x.set.type == 2)=true:=by simpa using h2
    by_cases hn:x.set.name=a.data.toList
    ·have jh:(!sn.toList == a.toList)=false:=by rw[dQ,dQ,aS.out,hn];simp
     have kF:=jq (HT.out _ (Qc λh=>h.2 hn));clear h2 hn;go_wp2_with fail;go_roundw
     case rel=>exact⟨k+1,by omega,by go_num,jq (aY.out _),jq (by rw[kF.out];exact HM.out.keep (eT.out _) qz)⟩
     case measure=>simp[intOf] <;> omega
    ·have jh:(!sn.toList == a.toList)=true:=by rw[dQ,dQ,aS.out];simpa using hn
     have kF:=jq (HT.out _ (Qb ⟨h2,hn⟩));have cw:=jq (Sb.out h2);clear h2 hn;go_wp2_with (at_mapUpdate;refine QU _ rfl _ _ _ 111 rfl 9 4 underlying111 underlying9 M (gv a.data.toList (l.take k)) rfl (HM.out.keep (eT.out _) qz) sn.data.toList rfl (.bool true) rfl cw.out ?_;intro w5 mA lT;have H5:=jq (And.intro mA lT);clear mA lT);go_roundw
     case rel=>exact⟨k+1,by omega,by go_num,jq ((aY.out _).trans (H5.out.2.below (bQ _))),jq (by rw[kF.out,<-aS.out];exact H5.out.1)⟩
     case measure=>simp[intOf] <;> omega
   ·have ae:(x.set.type == 2)=false:=by simpa using h2
    have kF:=jq (HT.out _ (Qc λh=>h2 h.1));clear h2;go_wp2_with fail;go_roundw
    case rel=>exact⟨k+1,by omega,by go_num,jq (aY.out _),jq (by rw[kF.out];exact HM.out.keep (eT.out _) qz)⟩
    case measure=>simp[intOf] <;> omega
  ·have mv:k=l.length:=by omega
   subst mv;rw[List.take_length] at HM;go_wp2_with fail;have gD:=Jd l.length cg;have HZ:Hid (∀ j,j<l.length->(madeCells #[Value.string ⟨#[]⟩] l.length)[j]?=some (.string ⟨#[]⟩)):=jq (λj hj=>Jc _ _ hj);generalize madeCells #[Value.string ⟨#[]⟩] l.length=Z at gD HZ;have jd:=jq (And.intro d0 d1);have Cx:Hid (∀ (Bl Bs:Nat) (w5:World),Below wr.heap.size wr w5->M<Bl->M<Bs->Bl≠Bs->Bl<w5.heap.size->Bs<w5.heap.size->w5.cell? ⟨Bl,0,none⟩=some (.string a)->w5.cell? ⟨Bl,1,none⟩=some (.slice A l.length c)->w5.cell? ⟨Bl,2,none⟩=some (.slice (some ⟨Bs,0,none⟩) l.length l.length)->(∀ j,j<l.length->w5.cell? ⟨Bs,j,none⟩=some (.string ⟨#[]⟩))->(∀ j,w5.frozen? ⟨Bs,j,none⟩=false)->
    LayB w.heap.size M Bl Bs/\LayK w M Bl Bs a (.slice A l.length c) (.slice (some ⟨Bs,0,none⟩) l.length l.length) (gv a.data.toList l) w5 (List.replicate l.length [])):=jq (λBl Bs w5 hb h1 h2 h3 h4 h5 k0 k1 k2 hz vq=>by
    refine⟨⟨by omega,h1,h2,h3⟩,az.out.trans (hb.aDQ),(hb.cell (by dsimp only;omega)).trans jd.out.1,(hb.cell (by dsimp only;omega)).trans jd.out.2,(hb.cell (by dsimp only;omega)).trans lZ.out.1,(hb.cell (by dsimp only;omega)).trans lZ.out.2.1,(hb.cell (by dsimp only;omega)).trans lZ.out.2.2,k0,k1,k2,HM.out.keep hb qz,λj x hx=>?_,h4,h5,λj=>(hb.frozen (by dsimp only;omega)).trans (RO.out j)⟩;rw[List.getElem?_replicate] at hx;split at hx
    ·rename_i hj
     cases hx
     exact⟨⟨#[]⟩,rfl,by decide,hz j hj,vq j⟩
    ·cases hx)
   go_region
   ·obtain⟨w5,aW⟩:=aCQ (((wr.alloc (.cells Z 9)).alloc (.cells #[.string a,.slice A l.length c,.slice (some ⟨wr.heap.size,0,none⟩) l.length l.length] 265)).drew);have aJ:Below wr.heap.size wr w5:=by rw[<-aW];exact (((vQ _ _).alloc (bQ _) _).alloc (by simp) _).drew
    have hp:=Cx.out (wr.heap.size+1) wr.heap.size w5 aJ (by omega) (by omega) (by omega) (by rw[<-aW];simp) (by rw[<-aW];simp;omega) (by rw[<-aW];simp[go_sem]) (by rw[<-aW];simp[go_sem]) (by rw[<-aW];simp[go_sem]) (λj hj=>by rw[<-aW];simp[go_sem];exact HZ.out j hj) (λj=>by rw[<-aW];simp[go_sem]);rw[aW];obtain⟨Aw,Ax⟩:=hp;have gF:=jq Aw;have n9:=jq Ax;clear aW aJ Aw Ax gD Cx HZ lZ jd HB az d0 d1;generalize wr.heap.size+1=X1 at *;generalize wr.heap.size=X0 at *;have c50:=n9.out.b0;have c51:=n9.out.b1;go_wp2_with fail;clear c50 c51;go_loopw [7,51] (λvc i wr=>Lv w M X1 X0 a (.slice A l.length c) (.slice (some ⟨X0,0,none⟩) l.length l.length) (gv a.data.toList l) B (Np.cR ⟨a.data.toList,l⟩) l vc i wr) (λ_ i _=>l.length - (intOf i).toNat)
    case atStart=>exact⟨0,⟨#[]⟩,jQ _,rfl,rfl,by decide,jq n9.out,jq (.inl rfl),jq (by rw[<-dE.out];rfl)⟩
    case round=>
     obtain⟨k,sc,hk,rfl,rfl,ip,HK,lF,HE⟩:=hrel;have mo:=HK.out.l2;have bD:=HK.out.blt;have xW:=HK.out.slt;have qz:=HK.out.map.lt;have gh:=HK.out.below.size;by_cases aa:k<l.length
     ·have ac:=aQ aa;obtain⟨b,o,c',sn,dv,sv,hA,bR,_,ar,cZ,aO,bh,f0,f1,f2,f3,f4⟩:=fR (HD.out.keep bH HK.out.below) ac
      cases hA
      have ic:Hid (Np.aA sn.data.toList=true):=jq (by rw[ar];exact HV.out _ (List.getElem_mem aa));have dF:Hid (B[k]?=some (Np.dK (Np.cR ⟨a.data.toList,l⟩) sc.data.toList sn.data.toList)/\B.drop (k+1)=Np.oD (Np.cR ⟨a.data.toList,l⟩) (Np.dK (Np.cR ⟨a.data.toList,l⟩) sc.data.toList sn.data.toList) (l.drop (k+1))):=jq (by
       have h1:=HE.out;rw[sQ aa,Np.oD,<-ar] at h1;refine⟨?_,?_⟩
       ·have:=List.getElem?_drop (xs:=B) (i:=k) (j:=0)
        rw[h1,Nat.add_zero] at this;exact this.symm
       ·have:=Qd (List.drop 1) h1
        rw[List.drop_drop] at this;simpa using this)
      obtain⟨s0,_,_,iW,la⟩:=HK.out.row k [] (by
       rw[oQ (by rw[List.length_take];omega),List.length_take,fy.out,show k - min k l.length=0 by omega,List.getElem?_replicate,Qb (by omega)])
      have kE:Hid (∀ (wx:World) (s:ByteArray),Below wr.heap.size wr wx->s.size<=140737488355328->s.data.toList=Np.dK (Np.cR ⟨a.data.toList,l⟩) sc.data.toList sn.data.toList->LayK w M X1 X0 a (.slice (some ⟨b,o,none⟩) l.length c) (.slice (some ⟨X0,0,none⟩) l.length l.length) (gv a.data.toList l) (wx.setCell ⟨X0,k,none⟩ (.string s)) (B.take (k+1)++List.replicate (l.length - (k+1)) [])):=jq (λwx s hb an hs=>by
       rw[<-PO fy.out dF.out.1,<-hs];exact (HK.out.keep gF.out hb).store gF.out (by rw[List.length_append,List.length_take,List.length_replicate,fy.out];omega) s an)
      have FI:=jq HK.out.map;have eT:Hid (∀ o,Below wr.heap.size wr (wr.alloc o)):=jq (λo=>(vQ _ _).alloc (bQ _) _);generalize hx:l[k]=x at *;clear hx ac;obtain⟨Ad,cd,rfl,_,_⟩:=ak aO;obtain⟨As,cs,rfl,_,_⟩:=ak bh;clear ar aO bh;have bV:(0:Int)<=(k:Int):=by omega
      have bT:(k:Int)<(l.length:Int):=by omega
      obtain⟨cb,fO⟩:=aCQ (Np.cR ⟨a.data.toList,l⟩ sn.data.toList);have mU:=jq fO;have ib:Hid (((gv a.data.toList l).lookup sn.data.toList).getD (.bool false) = .bool cb):=jq (by rw[<-fO];exact (C0 _ _ l).1);clear fO;have ut:Hid (∀ wx,Below wr.heap.size wr wx->Sem.run prog (Instr.lookup 111 (.map (some M)) (.string sn) false) wx = .ok (.bool cb) wx):=jq (λwx hb=>by
       have:=ED (P:=prog) wx 111 9 4 underlying111 underlying9 M (gv a.data.toList l) (FI.out.keep hb qz) sn.data.toList (.bool false) (by kernel_rfl)
       rw[ib.out] at this;exact this)
      by_cases hce:sc.data.toList = []
      ·obtain rfl:sc=⟨#[]⟩:=mR hce;have fz:Hid (cb=true->sn.data.toList=Np.dK (Np.cR ⟨a.data.toList,l⟩) [] sn.data.toList):=jq (λh=>by
        unfold Np.dK;rw[mU.out,h];simp)
       have jz:Hid (cb=false->[]=Np.dK (Np.cR ⟨a.data.toList,l⟩) [] sn.data.toList):=jq (λh=>by
        unfold Np.dK;rw[mU.out,h];simp)
       clear hce
       cases cb with
       | true=>
        have dN:∀ o,Sem.run prog (Instr.lookup 111 (.map (some M)) (.string sn) false) (wr.alloc o) = .ok (.bool true) (wr.alloc o):=λo=>ut.out _ (eT.out o);go_wp2_with fail;go_roundw
        case rel=>exact⟨k+1,sn,by omega,by go_num,rfl,cZ,jq ((kE.out wr sn (vQ _ _) cZ (fz.out (by simp))).keep gF.out ((vQ _ _).alloc (bQ _) _)),jq (.inr ic.out),jq (by rw[fz.out (by simp)];exact dF.out.2)⟩
        case measure=>simp[intOf] <;> omega
       | false=>
        have dN:∀ o,Sem.run prog (Instr.lookup 111 (.map (some M)) (.string sn) false) (wr.alloc o) = .ok (.bool false) (wr.alloc o):=λo=>ut.out _ (eT.out o);go_wp2_with fail;go_roundw
        case rel=>exact⟨k+1,⟨#[]⟩,by omega,by go_num,rfl,by decide,jq ((kE.out wr ⟨#[]⟩ (vQ _ _) (by decide) (jz.out (by simp))).keep gF.out ((vQ _ _).alloc (bQ _) _)),jq (.inl rfl),jq (by rw[show (⟨#[]⟩:ByteArray).data.toList = [] from rfl,jz.out (by simp)];exact dF.out.2)⟩
        case measure=>simp[intOf] <;> omega
      ·have WZ:(!sc.toList == [])=true:=by rw[dQ];simpa using hce
       have yf:(sc.toList == [])=false:=by rw[dQ];simpa using hce
       have kb:Hid (Np.aA sc.data.toList=true):=jq (lF.out.resolve_left hce);have lD:=jq hce;have Vx:M<wr.heap.size:=qz;clear hce;go_wp2_with fail;refine (B4 sn sc cZ ip _ ic.out kb.out).mono ?_;rintro e w2 ⟨rfl,ae⟩;have ai:=jq ((eT.out _).trans (ae.mono (by simp)));have eK:w2.cell? ⟨X1,2,none⟩=some (.slice (some ⟨X0,0,none⟩) l.length l.length):=aBX ai.out mo;have iX:w2.cell? ⟨X0,k,none⟩=some (.string s0):=aBX ai.out iW;have aK:=ai.out.size;have Wn:w2.frozen? ⟨X0,k,none⟩=false:=(ai.out.frozen (by dsimp only;omega)).trans la;clear ae mo iW la
       cases eD:Np.bi sn.data.toList sc.data.toList with
       | true=>
        have fz:Hid (sc.data.toList=Np.dK (Np.cR ⟨a.data.toList,l⟩) sc.data.toList sn.data.toList):=jq (by
         unfold Np.dK;simp[lD.out,eD])
        clear eD;go_wp2_with fail;go_roundw
        case rel=>exact⟨k+1,sc,by omega,by go_num,rfl,ip,jq (kE.out _ sc ai.out ip fz.out),jq (.inr kb.out),jq (by rw[fz.out];exact dF.out.2)⟩
        case measure=>simp[intOf] <;> omega
       | false=>
        have fz:Hid (cb=true->sn.data.toList=Np.dK (Np.cR ⟨a.data.toList,l⟩) sc.data.toList sn.data.toList):=jq (λh=>by
         unfold Np.dK;rw[mU.out,h];simp[eD,lD.out])
        have jz:Hid (cb=false->[]=Np.dK (Np.cR ⟨a.data.toList,l⟩) sc.data.toList sn.data.toList):=jq (λh=>by
         unfold Np.dK;rw[mU.out,h];simp[eD,lD.out])
        clear eD;have dN:=ut.out w2 ai.out
        cases cb with
        | true=>
         go_wp2_with fail;go_roundw
         case rel=>exact⟨k+1,sn,by omega,by go_num,rfl,cZ,jq (kE.out _ sn ai.out cZ (fz.out (by simp))),jq (.inr ic.out),jq (by rw[fz.out (by simp)];exact dF.out.2)⟩
         case measure=>simp[intOf] <;> omega
        | false=>
         go_wp2_with fail;go_roundw
         case rel=>exact⟨k+1,⟨#[]⟩,by omega,by go_num,rfl,by decide,jq (kE.out _ ⟨#[]⟩ ai.out (by decide) (jz.out (by simp))),jq (.inl rfl),jq (by rw[show (⟨#[]⟩:ByteArray).data.toList = [] from rfl,jz.out (by simp)];exact dF.out.2)⟩
         case measure=>simp[intOf] <;> omega
     ·have Bf:k=l.length:=by omega
      have l5:Hid (B.take k++List.replicate (l.length - k) []=B):=jq (by rw[Bf,Nat.sub_self,List.replicate_zero,List.append_nil,kQ (by rw[fy.out];exact bQ _)]);clear Bf;have g0:=HK.out.l0;have g1:=HK.out.l1;have r0:=HK.out.r0;have r1:=HK.out.r1;have r2:=HK.out.r2;have rf0:=HK.out.rf 0;have rf1:=HK.out.rf 1;have rf2:=HK.out.rf 2;go_wp2_with fail;obtain⟨w6,cj⟩:=aCQ (((wr.setCell ⟨w.heap.size+1,0,none⟩ (.string a)).setCell ⟨w.heap.size+1,1,none⟩ (.slice A l.length c)).setCell ⟨w.heap.size+1,2,none⟩ (.slice (some ⟨X0,0,none⟩) l.length l.length));have q0:w6.cell? ⟨w.heap.size+1,0,none⟩=some (.string a):=by rw[<-cj];simp[go_sem,r0]
      have q1:w6.cell? ⟨w.heap.size+1,1,none⟩=some (.slice A l.length c):=by rw[<-cj];simp[go_sem,r1]
      have q2:w6.cell? ⟨w.heap.size+1,2,none⟩=some (.slice (some ⟨X0,0,none⟩) l.length l.length):=by rw[<-cj];simp[go_sem,r2]
      have h1:=gF.out.map;have h2:=gF.out.row;have du:Hid (Below w.heap.size w w6):=jq (by rw[<-cj];exact ((HK.out.below.setCell (by simp) _).setCell (by simp) _).setCell (by simp) _);have F8:Hid (SlR RTx 1 w6 w6.heap.size (.slice (some ⟨X0,0,none⟩) l.length l.length) B):=jq (by
       have h3:=HK.out.row;rw[l5.out] at h3;have h4:=((h3.other (p:=⟨w.heap.size+1,0,none⟩) (by simp;omega) (.string a)).other (p:=⟨w.heap.size+1,1,none⟩) (by simp;omega) (.slice A l.length c)).other (p:=⟨w.heap.size+1,2,none⟩) (by simp;omega) (.slice (some ⟨X0,0,none⟩) l.length l.length);rw[cj] at h4;have h5:=h4.slr (by rw[<-cj];simp;omega) (by rw[fy.out];omega);rw[fy.out] at h5;exact h5)
      rw[cj];clear cj r0 r1 r2 rf0 rf1 rf2 g0 g1 mo;refine bodyPost_ret (v:=.agg #[.string a,.slice A l.length c,.slice (some ⟨X0,0,none⟩) l.length l.length]) ?_ rfl ⟨⟨_,rfl,F8.out⟩,du.out⟩;simp[results,results200,go_sem,q0,q1,q2]
   ·obtain⟨w5,aW⟩:=aCQ (((wr.alloc (.cells #[.string a,.slice A l.length c,.slice (some ⟨wr.heap.size+1,0,none⟩) l.length l.length] 265)).alloc (.cells Z 9)).drew);have aJ:Below wr.heap.size wr w5:=by rw[<-aW];exact (((vQ _ _).alloc (bQ _) _).alloc (by simp) _).drew
    have hp:=Cx.out wr.heap.size (wr.heap.size+1) w5 aJ (by omega) (by omega) (by omega) (by rw[<-aW];simp;omega) (by rw[<-aW];simp) (by rw[<-aW];simp[go_sem]) (by rw[<-aW];simp[go_sem]) (by rw[<-aW];simp[go_sem]) (λj hj=>by rw[<-aW];simp[go_sem];exact HZ.out j hj) (λj=>by rw[<-aW];simp[go_sem]);rw[aW];obtain⟨Aw,Ax⟩:=hp;have gF:=jq Aw;have n9:=jq Ax;clear aW aJ Aw Ax gD Cx HZ lZ jd HB az d0 d1;generalize wr.heap.size+1=X0 at *;generalize wr.heap.size=X1 at *;have c50:=n9.out.b0;have c51:=n9.out.b1;go_wp2_with fail;clear c50 c51;go_loopw [7,51] (λvc i wr=>Lv w M X1 X0 a (.slice A l.length c) (.slice (some ⟨X0,0,none⟩) l.length l.length) (gv a.data.toList l) B (Np.cR ⟨a.data.toList,l⟩) l vc i wr) (λ_ i _=>l.length - (intOf i).toNat)
    case atStart=>exact⟨0,⟨#[]⟩,jQ _,rfl,rfl,by decide,jq n9.out,jq (.inl rfl),jq (by rw[<-dE.out];rfl)⟩
    case round=>
     obtain⟨k,sc,hk,rfl,rfl,ip,HK,lF,HE⟩:=hrel;have mo:=HK.out.l2;have bD:=HK.out.blt;have xW:=HK.out.slt;have qz:=HK.out.map.lt;have gh:=HK.out.below.size;by_cases aa:k<l.length
     ·have ac:=aQ aa;obtain⟨b,o,c',sn,dv,sv,hA,bR,_,ar,cZ,aO,bh,f0,f1,f2,f3,f4⟩:=fR (HD.out.keep bH HK.out.below) ac
      cases hA
      have ic:Hid (Np.aA sn.data.toList=true):=jq (by rw[ar];exact HV.out _ (List.getElem_mem aa));have dF:Hid (B[k]?=some (Np.dK (Np.cR ⟨a.data.toList,l⟩) sc.data.toList sn.data.toList)/\B.drop (k+1)=Np.oD (Np.cR ⟨a.data.toList,l⟩) (Np.dK (Np.cR ⟨a.data.toList,l⟩) sc.data.toList sn.data.toList) (l.drop (k+1))):=jq (by
       have h1:=HE.out;rw[sQ aa,Np.oD,<-ar] at h1;refine⟨?_,?_⟩
       ·have:=List.getElem?_drop (xs:=B) (i:=k) (j:=0)
        rw[h1,Nat.add_zero] at this;exact this.symm
       ·have:=Qd (List.drop 1) h1
        rw[List.drop_drop] at this;simpa using this)
      obtain⟨s0,_,_,iW,la⟩:=HK.out.row k [] (by
       rw[oQ (by rw[List.length_take];omega),List.length_take,fy.out,show k - min k l.length=0 by omega,List.getElem?_replicate,Qb (by omega)])
      have kE:Hid (∀ (wx:World) (s:ByteArray),Below wr.heap.size wr wx->s.size<=140737488355328->s.data.toList=Np.dK (Np.cR ⟨a.data.toList,l⟩) sc.data.toList sn.data.toList->LayK w M X1 X0 a (.slice (some ⟨b,o,none⟩) l.length c) (.slice (some ⟨X0,0,none⟩) l.length l.length) (gv a.data.toList l) (wx.setCell ⟨X0,k,none⟩ (.string s)) (B.take (k+1)++List.replicate (l.length - (k+1)) [])):=jq (λwx s hb an hs=>by
       rw[<-PO fy.out dF.out.1,<-hs];exact (HK.out.keep gF.out hb).store gF.out (by rw[List.length_append,List.length_take,List.length_replicate,fy.out];omega) s an)
      have FI:=jq HK.out.map;have eT:Hid (∀ o,Below wr.heap.size wr (wr.alloc o)):=jq (λo=>(vQ _ _).alloc (bQ _) _);generalize hx:l[k]=x at *;clear hx ac;obtain⟨Ad,cd,rfl,_,_⟩:=ak aO;obtain⟨As,cs,rfl,_,_⟩:=ak bh;clear ar aO bh;have bV:(0:Int)<=(k:Int):=by omega
      have bT:(k:Int)<(l.length:Int):=by omega
      obtain⟨cb,fO⟩:=aCQ (Np.cR ⟨a.data.toList,l⟩ sn.data.toList);have mU:=jq fO;have ib:Hid (((gv a.data.toList l).lookup sn.data.toList).getD (.bool false) = .bool cb):=jq (by rw[<-fO];exact (C0 _ _ l).1);clear fO;have ut:Hid (∀ wx,Below wr.heap.size wr wx->Sem.run prog (Instr.lookup 111 (.map (some M)) (.string sn) false) wx = .ok (.bool cb) wx):=jq (λwx hb=>by
       have:=ED (P:=prog) wx 111 9 4 underlying111 underlying9 M (gv a.data.toList l) (FI.out.keep hb qz) sn.data.toList (.bool false) (by kernel_rfl)
       rw[ib.out] at this;exact this)
      by_cases hce:sc.data.toList = []
      ·obtain rfl:sc=⟨#[]⟩:=mR hce;have fz:Hid (cb=true->sn.data.toList=Np.dK (Np.cR ⟨a.data.toList,l⟩) [] sn.data.toList):=jq (λh=>by
        unfold Np.dK;rw[mU.out,h];simp)
       have jz:Hid (cb=false->[]=Np.dK (Np.cR ⟨a.data.toList,l⟩) [] sn.data.toList):=jq (λh=>by
        unfold Np.dK;rw[mU.out,h];simp)
       clear hce
       cases cb with
       | true=>
        have dN:∀ o,Sem.run prog (Instr.lookup 111 (.map (some M)) (.string sn) false) (wr.alloc o) = .ok (.bool true) (wr.alloc o):=λo=>ut.out _ (eT.out o);go_wp2_with fail;go_roundw
        case rel=>exact⟨k+1,sn,by omega,by go_num,rfl,cZ,jq ((kE.out wr sn (vQ _ _) cZ (fz.out (by simp))).keep gF.out ((vQ _ _).alloc (bQ _) _)),jq (.inr ic.out),jq (by rw[fz.out (by simp)];exact dF.out.2)⟩
        case measure=>simp[intOf] <;> omega
       | false=>
        have dN:∀ o,Sem.run prog (Instr.lookup 111 (.map (some M)) (.string sn) false) (wr.alloc o) = .ok (.bool false) (wr.alloc o):=λo=>ut.out _ (eT.out o);go_wp2_with fail;go_roundw
        case rel=>exact⟨k+1,⟨#[]⟩,by omega,by go_num,rfl,by decide,jq ((kE.out wr ⟨#[]⟩ (vQ _ _) (by decide) (jz.out (by simp))).keep gF.out ((vQ _ _).alloc (bQ _) _)),jq (.inl rfl),jq (by rw[show (⟨#[]⟩:ByteArray).data.toList = [] from rfl,jz.out (by simp)];exact dF.out.2)⟩
        case measure=>simp[intOf] <;> omega
      ·have WZ:(!sc.toList == [])=true:=by rw[dQ];simpa using hce
       have yf:(sc.toList == [])=false:=by rw[dQ];simpa using hce
       have kb:Hid (Np.aA sc.data.toList=true):=jq (lF.out.resolve_left hce);have lD:=jq hce;have Vx:M<wr.heap.size:=qz;clear hce;go_wp2_with fail;refine (B4 sn sc cZ ip _ ic.out kb.out).mono ?_;rintro e w2 ⟨rfl,ae⟩;have ai:=jq ((eT.out _).trans (ae.mono (by simp)));have eK:w2.cell? ⟨X1,2,none⟩=some (.slice (some ⟨X0,0,none⟩) l.length l.length):=aBX ai.out mo;have iX:w2.cell? ⟨X0,k,none⟩=some (.string s0):=aBX ai.out iW;have aK:=ai.out.size;have Wn:w2.frozen? ⟨X0,k,none⟩=false:=(ai.out.frozen (by dsimp only;omega)).trans la;clear ae mo iW la
       cases eD:Np.bi sn.data.toList sc.data.toList with
       | true=>
        have fz:Hid (sc.data.toList=Np.dK (Np.cR ⟨a.data.toList,l⟩) sc.data.toList sn.data.toList):=jq (by
         unfold Np.dK;simp[lD.out,eD])
        clear eD;go_wp2_with fail;go_roundw
        case rel=>exact⟨k+1,sc,by omega,by go_num,rfl,ip,jq (kE.out _ sc ai.out ip fz.out),jq (.inr kb.out),jq (by rw[fz.out];exact dF.out.2)⟩
        case measure=>simp[intOf] <;> omega
       | false=>
        have fz:Hid (cb=true->sn.data.toList=Np.dK (Np.cR ⟨a.data.toList,l⟩) sc.data.toList sn.data.toList):=jq (λh=>by
         unfold Np.dK;rw[mU.out,h];simp[eD,lD.out])
        have jz:Hid (cb=false->[]=Np.dK (Np.cR ⟨a.data.toList,l⟩) sc.data.toList sn.data.toList):=jq (λh=>by
         unfold Np.dK;rw[mU.out,h];simp[eD,lD.out])
        clear eD;have dN:=ut.out w2 ai.out
        cases cb with
        | true=>
         go_wp2_with fail;go_roundw
         case rel=>exact⟨k+1,sn,by omega,by go_num,rfl,cZ,jq (kE.out _ sn ai.out cZ (fz.out (by simp))),jq (.inr ic.out),jq (by rw[fz.out (by simp)];exact dF.out.2)⟩
         case measure=>simp[intOf] <;> omega
        | false=>
         go_wp2_with fail;go_roundw
         case rel=>exact⟨k+1,⟨#[]⟩,by omega,by go_num,rfl,by decide,jq (kE.out _ ⟨#[]⟩ ai.out (by decide) (jz.out (by simp))),jq (.inl rfl),jq (by rw[show (⟨#[]⟩:ByteArray).data.toList = [] from rfl,jz.out (by simp)];exact dF.out.2)⟩
         case measure=>simp[intOf] <;> omega
     ·have Bf:k=l.length:=by omega
      have l5:Hid (B.take k++List.replicate (l.length - k) []=B):=jq (by rw[Bf,Nat.sub_self,List.replicate_zero,List.append_nil,kQ (by rw[fy.out];exact bQ _)]);clear Bf;have g0:=HK.out.l0;have g1:=HK.out.l1;have r0:=HK.out.r0;have r1:=HK.out.r1;have r2:=HK.out.r2;have rf0:=HK.out.rf 0;have rf1:=HK.out.rf 1;have rf2:=HK.out.rf 2;go_wp2_with fail;obtain⟨w6,cj⟩:=aCQ (((wr.setCell ⟨w.heap.size+1,0,none⟩ (.string a)).setCell ⟨w.heap.size+1,1,none⟩ (.slice A l.length c)).setCell ⟨w.heap.size+1,2,none⟩ (.slice (some ⟨X0,0,none⟩) l.length l.length));have q0:w6.cell? ⟨w.heap.size+1,0,none⟩=some (.string a):=by rw[<-cj];simp[go_sem,r0]
      have q1:w6.cell? ⟨w.heap.size+1,1,none⟩=some (.slice A l.length c):=by rw[<-cj];simp[go_sem,r1]
      have q2:w6.cell? ⟨w.heap.size+1,2,none⟩=some (.slice (some ⟨X0,0,none⟩) l.length l.length):=by rw[<-cj];simp[go_sem,r2]
      have h1:=gF.out.map;have h2:=gF.out.row;have du:Hid (Below w.heap.size w w6):=jq (by rw[<-cj];exact ((HK.out.below.setCell (by simp) _).setCell (by simp) _).setCell (by simp) _);have F8:Hid (SlR RTx 1 w6 w6.heap.size (.slice (some ⟨X0,0,none⟩) l.length l.length) B):=jq (by
       have h3:=HK.out.row;rw[l5.out] at h3;have h4:=((h3.other (p:=⟨w.heap.size+1,0,none⟩) (by simp;omega) (.string a)).other (p:=⟨w.heap.size+1,1,none⟩) (by simp;omega) (.slice A l.length c)).other (p:=⟨w.heap.size+1,2,none⟩) (by simp;omega) (.slice (some ⟨X0,0,none⟩) l.length l.length);rw[cj] at h4;have h5:=h4.slr (by rw[<-cj];simp;omega) (by rw[fy.out];omega);rw[fy.out] at h5;exact h5)
      rw[cj];clear cj r0 r1 r2 rf0 rf1 rf2 g0 g1 mo;refine bodyPost_ret (v:=.agg #[.string a,.slice A l.length c,.slice (some ⟨X0,0,none⟩) l.length l.length]) ?_ rfl ⟨⟨_,rfl,F8.out⟩,du.out⟩;simp[results,results200,go_sem,q0,q1,q2]
theorem qX{w:World}{B n c:Nat}{A:Option Addr}{xs:List (List UInt8)}(h:SlR RTx 1 w B (.slice A n c) xs){k:Nat}{x:List UInt8}(hx:xs[k]?=some x):∃ (b o:Nat) (s:ByteArray),A=some ⟨b,o,none⟩/\b<B/\s.data.toList=x/\s.size<=140737488355328/\w.cell? ⟨b,o+k,none⟩=some (.string s):=by
 obtain⟨A',c',hv,hc,_,he⟩:=h;simp only[Value.slice.injEq] at hv;obtain⟨rfl,_,_⟩:=hv;obtain⟨b,o,e,rfl,hb,_,hce,s,h1,h2,rfl⟩:=he k x hx;exact⟨b,o,s,rfl,hb,h1,h2,by have:=hce 0 _ rfl;simpa using this⟩
def Np.pY(l:List Np.Signed)(B:List (List UInt8)):Prop:=∀ (i:Nat) (x:Np.Signed) (b:List UInt8),l[i]?=some x->B[i]?=some b->Np.jY x.set b
def Np.zO(l:List Np.Signed)(B:List (List UInt8)):Prop:=∀ (i:Nat) (x:Np.Signed) (b:List UInt8),l[i]?=some x->B[i]?=some b->b≠[]->x.set.type=2\/x.set.type=1->x.sigs = []
theorem Md{x:Np.DSet}{b:List UInt8}(hb:b = []):Np.jY x b↔x.type≠6:=by
 subst hb;exact⟨λh=>h.1 rfl,λh=>⟨λ_=>h,λh2=>absurd rfl h2,λh2=>absurd rfl h2⟩⟩
theorem Me{x:Np.DSet}{b:List UInt8}(hb:b≠[])(he:b=x.name):Np.jY x b↔(x.type=2\/x.type=6\/x.type=8\/x.type=1):=
 ⟨λh=>h.2.1 hb he,λh=>⟨λh2=>absurd h2 hb,λ_ _=>h,λ_ h2=>absurd he h2⟩⟩
theorem Mf{x:Np.DSet}{b:List UInt8}(hb:b≠[])(he:b≠x.name):Np.jY x b↔x.type=1:=
 ⟨λh=>h.2.2 hb he,λh=>⟨λh2=>absurd h2 hb,λ_ h2=>absurd h2 he,λ_ _=>h⟩⟩
theorem Uu(a:ByteArray)(v bv:Value)(l:List Np.Signed)(B:List (List UInt8))(jE:B.length=l.length)(w:World)(hd:SlR bP 5 w w.heap.size v l)(mj:SlR RTx 1 w w.heap.size bv B) :
 Calls prog 202 #[.agg #[.string a,v,bv]] w (aFQ w.heap.size w (.bool (Np.yes (Np.pY l B)))):=by
 obtain⟨r,hr⟩:=aCQ (Np.yes (Np.pY l B));rw[hr];have HR:=jq hr;have fy:=jq jE;have HD:=jq hd;have ph:=jq mj;obtain⟨A,c,rfl,bq,bN⟩:=ak hd;obtain⟨A2,c2,rfl,fF,eK⟩:=ak mj;rw[jE] at fF eK ph |-;clear hr hd mj jE;have HW:Hid (∀ o,Below w.heap.size w (w.alloc o)):=jq (λo=>(vQ _ w).alloc (bQ _) _);go_enter func202,ntmps202;go_wp2_with fail;obtain⟨w1,ah⟩:=aCQ (w.alloc (.cells #[.string a,.slice A l.length c,.slice A2 l.length c2] 265));have c2':w1.cell? ⟨w.heap.size,2,none⟩=some (.slice A2 l.length c2):=by rw[<-ah];simp[go_sem]
 have eh:w.heap.size<w1.heap.size:=by rw[<-ah];simp
 have aq:Hid (Below w.heap.size w w1):=jq (by rw[<-ah];exact HW.out _);rw[ah];clear ah;go_loopw [11] (λi wr=>∃ k:Nat,k<=l.length/\i = .int .i64 k/\Hid (Below w1.heap.size w1 wr)/\Hid (∀ j x b,j<k->l[j]?=some x->B[j]?=some b->Np.jY x.set b)) (λi _=>l.length - (intOf i).toNat)
 case atStart=>exact⟨0,jQ _,rfl,jq (vQ _ _),jq (λj x b hj=>by omega)⟩
 case round=>
  obtain⟨k,hk,rfl,HB,HA⟩:=hrel;have an:=HB.out.size;have az:=aBY aq HB.out;by_cases aa:k<l.length
  ·obtain⟨x,ac⟩:∃ x,l[k]?=some x:=⟨_,aQ aa⟩;obtain⟨bb,dU⟩:∃ bb,B[k]?=some bb:=⟨_,aQ (by rw[fy.out];omega)⟩;obtain⟨b,o,c',sn,dv,sv,hA,bR,_,ar,cZ,aO,bh,e0,e1,e2,e3,e4⟩:=fR (HD.out.keep bH az.out) ac
   cases hA
   obtain⟨b2,o2,sb,rfl,xV,lP,IH,g0⟩:=qX (ph.out.keep nT az.out) dU;have HN:Hid (Np.jY x.set bb->∀ j x b,j<k+1->l[j]?=some x->B[j]?=some b->Np.jY x.set b):=jq (λh j x b hj hx hb=>by
    by_cases e:j=k
    ·subst e;rw[ac] at hx;rw[dU] at hb;cases hx;cases hb;exact h
    ·exact HA.out j x b (by omega) hx hb)
   have HF:Hid (¬ Np.jY x.set bb->r=false):=jq (λh=>by
    rw[<-HR.out];exact Np.aC λq=>h (q k _ _ ac dU))
   clear ac dU;obtain⟨Ad,cd,rfl,_,_⟩:=ak aO;obtain⟨As,cs,rfl,_,_⟩:=ak bh;have hcell:wr.cell? ⟨w.heap.size,2,none⟩=some (.slice (some ⟨b2,o2,none⟩) l.length c2):=aBX HB.out c2';have dJ:w.heap.size<wr.heap.size:=by omega
   have aB:b<wr.heap.size:=by omega
   have ae:b2<wr.heap.size:=by omega
   have aY:Hid (∀ o,Below w1.heap.size w1 (wr.alloc o)):=jq (λo=>HB.out.alloc HB.out.size _);have mS:Hid (∀ o,Below w.heap.size w (wr.alloc o)):=jq (λo=>az.out.alloc (by omega) _);have bV:(0:Int)<=(k:Int):=by omega
   have bT:(k:Int)<(l.length:Int):=by omega
   have aS:=jq ar;have fl:=jq lP;obtain⟨ty,dC⟩:=aCQ x.set.type;have di:=jq dC;rw[dC] at e1;clear ar lP aO bh dC;by_cases dM:bb = []
   ·obtain rfl:sb=⟨#[]⟩:=mR (by rw[fl.out,dM]);have bl:=jq (Md (x:=x.set) dM);clear dM;by_cases h6:ty=6
    ·have HX:Hid (r=false):=jq (HF.out λh=>(bl.out.1 h) (di.out.trans h6));subst h6;go_wp2_with fail;go_ret;exact⟨ag HX.out.symm,mS.out _⟩
    ·have HX:=jq (HN.out (bl.out.2 λh=>h6 (di.out.symm.trans h)));have h6':(ty == 6)=false:=by simpa using h6
     clear h6;go_wp2_with fail;go_roundw
     case rel=>exact⟨k+1,by omega,by go_num,jq (aY.out _),jq HX.out⟩
     case measure=>simp[intOf] <;> omega
   ·have yf:(sb.toList == [])=false:=by rw[dQ,fl.out];simpa using dM
    by_cases jh:bb=x.set.name
    ·have Hm:(sb.toList == sn.toList)=true:=by rw[dQ,dQ,fl.out,aS.out];simpa using jh
     have bl:=jq (Me (x:=x.set) dM jh);clear dM jh;by_cases ht:ty=2\/ty=6\/ty=8\/ty=1
     ·have HX:=jq (HN.out (bl.out.2 (by rw[di.out];exact ht)));rcases ht with rfl | rfl | rfl | rfl
      all_goals
       go_wp2_with fail;go_roundw
       case rel=>exact⟨k+1,by omega,by go_num,jq (aY.out _),jq HX.out⟩
       case measure=>simp[intOf] <;> omega
     ·have HX:Hid (r=false):=jq (HF.out λh=>ht (by have:=bl.out.1 h;rwa [di.out] at this));have t1:(ty != 2)=true:=by simp;omega
      have t2:(ty != 6)=true:=by simp;omega
      have t3:(ty != 8)=true:=by simp;omega
      have t4:(ty != 1)=true:=by simp;omega
      clear ht;go_wp2_with fail;go_ret;exact⟨ag HX.out.symm,mS.out _⟩
    ·have Hm:(sb.toList == sn.toList)=false:=by rw[dQ,dQ,fl.out,aS.out];simpa using jh
     have bl:=jq (Mf (x:=x.set) dM jh);clear dM jh;by_cases ht:ty=1
     ·have HX:=jq (HN.out (bl.out.2 (by rw[di.out];exact ht)));subst ht;go_wp2_with fail;go_roundw
      case rel=>exact⟨k+1,by omega,by go_num,jq (aY.out _),jq HX.out⟩
      case measure=>simp[intOf] <;> omega
     ·have HX:Hid (r=false):=jq (HF.out λh=>ht (by have:=bl.out.1 h;rwa [di.out] at this));have t4:(ty != 1)=true:=by simpa using ht
      clear ht;go_wp2_with fail;go_ret;exact⟨ag HX.out.symm,mS.out _⟩
  ·go_wp2_with fail;go_ret;refine⟨ag ?_,az.out⟩;rw[<-HR.out];exact (Np.ba λi x b hx hb=>HA.out i x b (by have:=(cQ.1 hx).1;omega) hx hb).symm
def Np.yK(l:List Np.Signed)(k:Nat)(x:Np.Signed):Prop:=x.set.type=3->(∀ p,0<k->l[k - 1]?=some p->p.set.name≠x.set.name)/\∀ n,l[k+1]?=some n->n.set.name=x.set.name->n.set.type=8
def Np.yL(l:List Np.Signed):Prop:=∀ k x,l[k]?=some x->Np.yK l k x
theorem Tk(a:ByteArray)(v:Value)(A2:Option Addr)(n2 c2:Nat)(l:List Np.Signed)(cg:l.length<=20000)(w:World)(hd:SlR bP 5 w w.heap.size v l) :
 Calls prog 201 #[.agg #[.string a,v,.slice A2 n2 c2]] w (aFQ w.heap.size w (.bool (Np.yes (Np.yL l)))):=by
 obtain⟨r,hr⟩:=aCQ (Np.yes (Np.yL l));rw[hr];have HR:=jq hr;have HD:=jq hd;obtain⟨A,c,rfl,bq,bN⟩:=ak hd;clear hr hd;have HW:Hid (∀ o,Below w.heap.size w (w.alloc o)):=jq (λo=>(vQ _ w).alloc (bQ _) _);go_enter func201,ntmps201;go_wp2_with fail;obtain⟨w1,ah⟩:=aCQ (w.alloc (.cells #[.string a,.slice A l.length c,.slice A2 n2 c2] 265));have c2':w1.cell? ⟨w.heap.size,1,none⟩=some (.slice A l.length c):=by rw[<-ah];simp[go_sem]
 have eh:w.heap.size<w1.heap.size:=by rw[<-ah];simp
 have aq:Hid (Below w.heap.size w w1):=jq (by rw[<-ah];exact HW.out _);rw[ah];clear ah;go_loopw [10] (λi wr=>∃ k:Nat,k<=l.length/\i = .int .i64 k/\Hid (Below w1.heap.size w1 wr)/\Hid (∀ j x,j<k->l[j]?=some x->Np.yK l j x)) (λi _=>l.length - (intOf i).toNat)
 case atStart=>exact⟨0,jQ _,rfl,jq (vQ _ _),jq (λj x hj=>by omega)⟩
 case round=>
  obtain⟨k,hk,rfl,HB,HA⟩:=hrel;have an:=HB.out.size;have az:=aBY aq HB.out;by_cases aa:k<l.length
  ·obtain⟨x,ac⟩:∃ x,l[k]?=some x:=⟨_,aQ aa⟩;obtain⟨b,o,c',sn,dv,sv,hA,bR,_,ar,cZ,aO,bh,e0,e1,e2,e3,e4⟩:=fR (HD.out.keep bH az.out) ac
   cases hA
   have HN:Hid (Np.yK l k x->∀ j x,j<k+1->l[j]?=some x->Np.yK l j x):=jq (λh j y hj hy=>by
    by_cases e:j=k
    ·subst e;rw[ac] at hy;cases hy;exact h
    ·exact HA.out j y (by omega) hy)
   have HF:Hid (¬ Np.yK l k x->r=false):=jq (λh=>by
    rw[<-HR.out];exact Np.aC λq=>h (q k x ac))
   have gp:Hid (∀ (m:Nat) (y:Np.Signed),l[m]?=some y->∃ (sy:ByteArray),sy.data.toList=y.set.name/\wr.cell? ⟨b,o+m * 5,none⟩=some (.string sy)/\wr.cell? ⟨b,o+m * 5+1,none⟩=some (.int .i64 y.set.type)):=jq (λm y hy=>by
    obtain⟨b9,o9,c9,sy,dv9,sv9,hA,_,_,gU,_,_,_,q0,q1,_⟩:=fR (HD.out.keep bH az.out) hy;simp only[Value.slice.injEq,Option.some.injEq,Addr.mk.injEq,and_true,true_and] at hA;obtain⟨⟨rfl,rfl⟩,-⟩:=hA;exact⟨sy,gU,q0,q1⟩)
   clear ac;obtain⟨Ad,cd,rfl,_,_⟩:=ak aO;obtain⟨As,cs,rfl,_,_⟩:=ak bh;have hcell:wr.cell? ⟨w.heap.size,1,none⟩=some (.slice (some ⟨b,o,none⟩) l.length c):=aBX HB.out c2';have dJ:w.heap.size<wr.heap.size:=by omega
   have aB:b<wr.heap.size:=by omega
   have aY:Hid (∀ o,Below w1.heap.size w1 (wr.alloc o)):=jq (λo=>HB.out.alloc HB.out.size _);have mS:Hid (∀ o,Below w.heap.size w (wr.alloc o)):=jq (λo=>az.out.alloc (by omega) _);have bV:(0:Int)<=(k:Int):=by omega
   have bT:(k:Int)<(l.length:Int):=by omega
   have aS:=jq ar;obtain⟨ty,dC⟩:=aCQ x.set.type;have di:=jq dC;rw[dC] at e1;clear ar aO bh dC;by_cases h3:ty=3
   ·obtain⟨w2,aj⟩:=aCQ (wr.alloc (.cells #[.string sn,.int .i64 ty,.int .i64 x.set.life,.slice Ad x.set.data.length cd,.slice As x.sigs.length cs] 42));subst h3;have t3:((3:Int) != 3)=false:=by decide
    have Hj:∃ q:Bool,Hid (q=true↔∃ p,0<k/\l[k - 1]?=some p/\p.set.name=x.set.name)/\((k=0/\q=false)\/∃ (m:Nat) (y:Np.Signed) (sy:ByteArray),k=m+1/\wr.cell? ⟨b,o+m * 5,none⟩=some (.string sy)/\(sy.toList == sn.toList)=q):=by
     by_cases gC:k=0
     ·exact⟨false,jq ⟨λh=>(by cases h),λ⟨p,h,_⟩=>(by omega)⟩,.inl ⟨gC,rfl⟩⟩
     ·obtain⟨m,rfl⟩:∃ m,k=m+1:=⟨k - 1,by omega⟩;obtain⟨y,hy⟩:∃ y,l[m]?=some y:=⟨_,aQ (by omega)⟩;obtain⟨sy,gU,q0,q1⟩:=gp.out m y hy;refine⟨_,jq ?_,.inr ⟨m,y,sy,rfl,q0,rfl⟩⟩;rw[dQ,dQ,gU,aS.out,beq_iff_eq];constructor
      ·intro h;exact⟨y,by omega,by simpa using hy,h⟩
      ·rintro⟨p,_,hp,h⟩;rw[show m+1 - 1=m by omega,hy] at hp
       cases hp;exact h
    have VU:∃ q1 q2:Bool,Hid (∀ n,l[k+1]?=some n->(q1=true↔n.set.name=x.set.name)/\(q2=true↔n.set.type≠8))/\((l.length=k+1/\q1=false)\/∃ (y:Np.Signed) (sy:ByteArray) (ny:Int),k+1<l.length/\wr.cell? ⟨b,o+(k+1) * 5,none⟩=some (.string sy)/\wr.cell? ⟨b,o+(k+1) * 5+1,none⟩=some (.int .i64 ny)/\(sy.toList == sn.toList)=q1/\(ny != 8)=q2):=by
     by_cases mx:l.length=k+1
     ·exact⟨false,false,jq (λn hn=>by have:=(cQ.1 hn).1;omega),.inl ⟨mx,rfl⟩⟩
     ·obtain⟨y,hy⟩:∃ y,l[k+1]?=some y:=⟨_,aQ (by omega)⟩;obtain⟨sy,gU,q0,q1⟩:=gp.out (k+1) y hy;refine⟨_,_,jq (λn hn=>?_),.inr ⟨y,sy,y.set.type,by omega,q0,q1,rfl,rfl⟩⟩;rw[hy] at hn;cases hn;rw[dQ,dQ,gU,aS.out,beq_iff_eq];exact⟨Iff.rfl,by simp⟩
    clear aj w2;obtain⟨qb,rl,Br⟩:=Hj;obtain⟨q1,q2,Cz,kr⟩:=VU;have J5:Hid (∀ o n,Below w1.heap.size w1 ((wr.alloc o).drewN n)):=jq (λo n=>below_drewN (HB.out.alloc HB.out.size _) _);have E1:Hid (∀ o n,Below w.heap.size w ((wr.alloc o).drewN n)):=jq (λo n=>below_drewN (az.out.alloc (by omega) _) _);have vE:∀ o' n,(wr.alloc o').drewN n=(wr.alloc o').drewN n:=λ_ _=>rfl;clear vE
    cases qb with
    | true=>
     have HX:Hid (r=false):=jq (HF.out λh=>by
      obtain⟨p,yh,hp,he⟩:=rl.out.1 rfl;exact (h di.out).1 p yh hp he)
     rcases Br with ⟨_,h⟩ | ⟨m,y,sy,mw,g0,rR⟩
     ·cases h
     ·have jj:decide ((0:Int)<(k:Int))=true:=by simp;omega
      have jk:decide (0<k)=true:=by simp;omega
      have IS:IntKind.i64.wrap ((k:Int) - 1)=(m:Int):=by rw[IntWalk.i64_in _ (by omega)];omega
      have D2:(k:Int) - 1=(m:Int):=by omega
      have nE:(0:Int)<=(m:Int):=by omega
      have qE:(m:Int)<(l.length:Int):=by omega
      clear mw;go_wp2_with fail;go_quiet (fail);go_wp2_with fail;go_ret;exact⟨ag HX.out.symm,E1.out _ _⟩
    | false=>
     have am:Hid (∀ p,0<k->l[k - 1]?=some p->p.set.name≠x.set.name):=jq (λp h0 hp he=>by
      have:=rl.out.2 ⟨p,h0,hp,he⟩
      cases this)
     rcases Br with ⟨gC,_⟩ | ⟨m,y,sy,mw,g0,rR⟩
     ·have jj:decide ((0:Int)<(k:Int))=false:=by simp;omega
      have jk:decide (0<k)=false:=by simp;omega
      clear gC;go_wp2_with fail;go_quiet (fail);go_wp2_with fail;obtain⟨w4,bS⟩:=aCQ ((wr.alloc (.cells #[.string sn,.int .i64 3,.int .i64 x.set.life,.slice Ad x.set.data.length cd,.slice As x.sigs.length cs] 42)).drewN nq);rw[bS];have uF:Hid (Below w1.heap.size w1 w4):=jq (by rw[<-bS];exact J5.out _ _);have Gj:Hid (Below w.heap.size w w4):=jq (by rw[<-bS];exact E1.out _ _);have aw:Below wr.heap.size wr w4:=by rw[<-bS];exact below_drewN ((vQ _ _).alloc (bQ _) _) _
      have n4:w4.cell? ⟨wr.heap.size,0,none⟩=some (.string sn):=by rw[<-bS];simp[go_sem]
      have DC:w4.cell? ⟨w.heap.size,1,none⟩=some (.slice (some ⟨b,o,none⟩) l.length c):=aBX aw hcell;rcases kr with ⟨mx,rfl⟩ | ⟨y',sy',ny,mx,k0,k1,DT,tC⟩
      ·have HX:=jq (HN.out (λ_=>⟨am.out,λn hn=>by have:=(cQ.1 hn).1;omega⟩));have aJ:decide ((k:Int)+1<(l.length:Int))=false:=by simp;omega
       have ep:decide (k+1<l.length)=false:=by simp;omega
       clear mx;clear aw bS;go_wp2_with fail;go_quiet (fail);go_wp2_with fail;go_roundw
       case rel=>exact⟨k+1,by omega,by go_num,jq (below_drewN uF.out _),jq HX.out⟩
       case measure=>simp[intOf] <;> omega
      ·have k04:w4.cell? ⟨b,o+(k+1) * 5,none⟩=some (.string sy'):=aBX aw k0;have k14:w4.cell? ⟨b,o+(k+1) * 5+1,none⟩=some (.int .i64 ny):=aBX aw k1;obtain⟨j,hj⟩:=aCQ (k+1);have ha:IntKind.i64.wrap ((k:Int)+1)=(j:Int):=by rw[IntWalk.i64_in _ (by omega)];omega
       have VF:(k:Int)+1=(j:Int):=by omega
       have aJ:decide ((j:Int)<(l.length:Int))=true:=by simp;omega
       have ep:decide (j<l.length)=true:=by simp;omega
       have kp:(0:Int)<=(j:Int):=by omega
       have vv:(j:Int)<(l.length:Int):=by omega
       rw[hj] at k04 k14 Cz;have HJ:=jq hj;have aR:b<w4.heap.size:=by have:=aw.size;omega
       clear aw bS k0 k1 hj mx;obtain⟨n,hn⟩:∃ n,l[j]?=some n:=⟨_,aQ (by omega)⟩;have ka:=jq (Cz.out n hn);have gG:=jq hn;clear hn
       cases q1 with
       | false=>
        have HX:=jq (HN.out (λ_=>⟨am.out,λn' hn' he=>by
         rw[HJ.out,gG.out] at hn';cases hn'
         have:=ka.out.1.2 he
         cases this⟩))
        go_wp2_with fail;go_quiet (fail);go_wp2_with fail;go_roundw
        case rel=>exact⟨k+1,by omega,by go_num,jq (below_drewN uF.out _),jq HX.out⟩
        case measure=>simp[intOf] <;> omega
       | true=>
        cases q2 with
        | false=>
         have HX:=jq (HN.out (λ_=>⟨am.out,λn' hn' _=>by
          rw[HJ.out,gG.out] at hn';cases hn';refine Decidable.not_not.1 λh8=>?_
          have:=ka.out.2.2 h8
          cases this⟩))
         go_wp2_with fail;go_quiet (fail);go_wp2_with fail;go_roundw
         case rel=>exact⟨k+1,by omega,by go_num,jq (below_drewN uF.out _),jq HX.out⟩
         case measure=>simp[intOf] <;> omega
        | true=>
         have HX:Hid (r=false):=jq (HF.out λh=>(ka.out.2.1 rfl) ((h di.out).2 n (by rw[HJ.out];exact gG.out) (ka.out.1.1 rfl)));go_wp2_with fail;go_quiet (fail);go_wp2_with fail;go_ret;exact⟨ag HX.out.symm,below_drewN Gj.out _⟩
     ·have jj:decide ((0:Int)<(k:Int))=true:=by simp;omega
      have jk:decide (0<k)=true:=by simp;omega
      have IS:IntKind.i64.wrap ((k:Int) - 1)=(m:Int):=by rw[IntWalk.i64_in _ (by omega)];omega
      have D2:(k:Int) - 1=(m:Int):=by omega
      have nE:(0:Int)<=(m:Int):=by omega
      have qE:(m:Int)<(l.length:Int):=by omega
      clear mw;go_wp2_with fail;go_quiet (fail);go_wp2_with fail;obtain⟨w4,bS⟩:=aCQ ((wr.alloc (.cells #[.string sn,.int .i64 3,.int .i64 x.set.life,.slice Ad x.set.data.length cd,.slice As x.sigs.length cs] 42)).drewN nq);rw[bS];have uF:Hid (Below w1.heap.size w1 w4):=jq (by rw[<-bS];exact J5.out _ _);have Gj:Hid (Below w.heap.size w w4):=jq (by rw[<-bS];exact E1.out _ _);have aw:Below wr.heap.size wr w4:=by rw[<-bS];exact below_drewN ((vQ _ _).alloc (bQ _) _) _
      have n4:w4.cell? ⟨wr.heap.size,0,none⟩=some (.string sn):=by rw[<-bS];simp[go_sem]
      have DC:w4.cell? ⟨w.heap.size,1,none⟩=some (.slice (some ⟨b,o,none⟩) l.length c):=aBX aw hcell;rcases kr with ⟨mx,rfl⟩ | ⟨y',sy',ny,mx,k0,k1,DT,tC⟩
      ·have HX:=jq (HN.out (λ_=>⟨am.out,λn hn=>by have:=(cQ.1 hn).1;omega⟩));have aJ:decide ((k:Int)+1<(l.length:Int))=false:=by simp;omega
       have ep:decide (k+1<l.length)=false:=by simp;omega
       clear mx;clear aw bS;go_wp2_with fail;go_quiet (fail);go_wp2_with fail;go_roundw
       case rel=>exact⟨k+1,by omega,by go_num,jq (below_drewN uF.out _),jq HX.out⟩
       case measure=>simp[intOf] <;> omega
      ·have k04:w4.cell? ⟨b,o+(k+1) * 5,none⟩=some (.string sy'):=aBX aw k0;have k14:w4.cell? ⟨b,o+(k+1) * 5+1,none⟩=some (.int .i64 ny):=aBX aw k1;obtain⟨j,hj⟩:=aCQ (k+1);have ha:IntKind.i64.wrap ((k:Int)+1)=(j:Int):=by rw[IntWalk.i64_in _ (by omega)];omega
       have VF:(k:Int)+1=(j:Int):=by omega
       have aJ:decide ((j:Int)<(l.length:Int))=true:=by simp;omega
       have ep:decide (j<l.length)=true:=by simp;omega
       have kp:(0:Int)<=(j:Int):=by omega
       have vv:(j:Int)<(l.length:Int):=by omega
       rw[hj] at k04 k14 Cz;have HJ:=jq hj;have aR:b<w4.heap.size:=by have:=aw.size;omega
       clear aw bS k0 k1 hj mx;obtain⟨n,hn⟩:∃ n,l[j]?=some n:=⟨_,aQ (by omega)⟩;have ka:=jq (Cz.out n hn);have gG:=jq hn;clear hn
       cases q1 with
       | false=>
        have HX:=jq (HN.out (λ_=>⟨am.out,λn' hn' he=>by
         rw[HJ.out,gG.out] at hn';cases hn'
         have:=ka.out.1.2 he
         cases this⟩))
        go_wp2_with fail;go_quiet (fail);go_wp2_with fail;go_roundw
        case rel=>exact⟨k+1,by omega,by go_num,jq (below_drewN uF.out _),jq HX.out⟩
        case measure=>simp[intOf] <;> omega
       | true=>
        cases q2 with
        | false=>
         have HX:=jq (HN.out (λ_=>⟨am.out,λn' hn' _=>by
          rw[HJ.out,gG.out] at hn';cases hn';refine Decidable.not_not.1 λh8=>?_
          have:=ka.out.2.2 h8
          cases this⟩))
         go_wp2_with fail;go_quiet (fail);go_wp2_with fail;go_roundw
         case rel=>exact⟨k+1,by omega,by go_num,jq (below_drewN uF.out _),jq HX.out⟩
         case measure=>simp[intOf] <;> omega
        | true=>
         have HX:Hid (r=false):=jq (HF.out λh=>(ka.out.2.1 rfl) ((h di.out).2 n (by rw[HJ.out];exact gG.out) (ka.out.1.1 rfl)));go_wp2_with fail;go_quiet (fail);go_wp2_with fail;go_ret;exact⟨ag HX.out.symm,below_drewN Gj.out _⟩
   ·have HX:=jq (HN.out (λh=>absurd (di.out.symm.trans h) h3));have h3':(ty != 3)=true:=by simpa using h3
    clear h3;go_wp2_with fail;go_roundw
    case rel=>exact⟨k+1,by omega,by go_num,jq (aY.out _),jq HX.out⟩
    case measure=>simp[intOf] <;> omega
  ·go_wp2_with fail;go_ret;refine⟨ag ?_,az.out⟩;rw[<-HR.out];exact (Np.ba λi x hx=>HA.out i x (by have:=(cQ.1 hx).1;omega) hx).symm
theorem anJ(a:ByteArray)(v bv:Value)(l:List Np.Signed)(B:List (List UInt8))(jE:B.length=l.length)(w:World)(hd:SlR bP 5 w w.heap.size v l)(mj:SlR RTx 1 w w.heap.size bv B) :
 Calls prog 203 #[.agg #[.string a,v,bv]] w (aFQ w.heap.size w (.bool (Np.yes (Np.zO l B)))):=by
 obtain⟨r,hr⟩:=aCQ (Np.yes (Np.zO l B));rw[hr];have HR:=jq hr;have fy:=jq jE;have HD:=jq hd;have ph:=jq mj;obtain⟨A,c,rfl,bq,bN⟩:=ak hd;obtain⟨A2,c2,rfl,fF,eK⟩:=ak mj;rw[jE] at fF eK ph |-;clear hr hd mj jE;have HW:Hid (∀ o,Below w.heap.size w (w.alloc o)):=jq (λo=>(vQ _ w).alloc (bQ _) _);go_enter func203,ntmps203;go_wp2_with fail;obtain⟨w1,ah⟩:=aCQ (w.alloc (.cells #[.string a,.slice A l.length c,.slice A2 l.length c2] 265));have c2':w1.cell? ⟨w.heap.size,2,none⟩=some (.slice A2 l.length c2):=by rw[<-ah];simp[go_sem]
 have eh:w.heap.size<w1.heap.size:=by rw[<-ah];simp
 have aq:Hid (Below w.heap.size w w1):=jq (by rw[<-ah];exact HW.out _);rw[ah];clear ah;go_loopw [11] (λi wr=>∃ k:Nat,k<=l.length/\i = .int .i64 k/\Hid (Below w1.heap.size w1 wr)/\Hid (∀ j x b,j<k->l[j]?=some x->B[j]?=some b->(b≠[]->x.set.type=2\/x.set.type=1->x.sigs = []))) (λi _=>l.length - (intOf i).toNat)
 case atStart=>exact⟨0,jQ _,rfl,jq (vQ _ _),jq (λj x b hj=>by omega)⟩
 case round=>
  obtain⟨k,hk,rfl,HB,HA⟩:=hrel;have an:=HB.out.size;have az:=aBY aq HB.out;by_cases aa:k<l.length
  ·obtain⟨x,ac⟩:∃ x,l[k]?=some x:=⟨_,aQ aa⟩;obtain⟨bb,dU⟩:∃ bb,B[k]?=some bb:=⟨_,aQ (by rw[fy.out];omega)⟩;obtain⟨b,o,c',sn,dv,sv,hA,bR,_,ar,cZ,aO,bh,e0,e1,e2,e3,e4⟩:=fR (HD.out.keep bH az.out) ac
   cases hA
   obtain⟨b2,o2,sb,rfl,xV,lP,IH,g0⟩:=qX (ph.out.keep nT az.out) dU;have HN:Hid ((bb≠[]->x.set.type=2\/x.set.type=1->x.sigs = [])->∀ j x b,j<k+1->l[j]?=some x->B[j]?=some b->(b≠[]->x.set.type=2\/x.set.type=1->x.sigs = [])):=jq (λh j x b hj hx hb=>by
    by_cases e:j=k
    ·subst e;rw[ac] at hx;rw[dU] at hb;cases hx;cases hb;exact h
    ·exact HA.out j x b (by omega) hx hb)
   have HF:Hid (¬ (bb≠[]->x.set.type=2\/x.set.type=1->x.sigs = [])->r=false):=jq (λh=>by
    rw[<-HR.out];exact Np.aC λq=>h (q k _ _ ac dU))
   clear ac dU;obtain⟨Ad,cd,rfl,_,_⟩:=ak aO;obtain⟨As,cs,rfl,_,_⟩:=ak bh;have hcell:wr.cell? ⟨w.heap.size,2,none⟩=some (.slice (some ⟨b2,o2,none⟩) l.length c2):=aBX HB.out c2';have dJ:w.heap.size<wr.heap.size:=by omega
   have aB:b<wr.heap.size:=by omega
   have ae:b2<wr.heap.size:=by omega
   have aY:Hid (∀ o,Below w1.heap.size w1 (wr.alloc o)):=jq (λo=>HB.out.alloc HB.out.size _);have mS:Hid (∀ o,Below w.heap.size w (wr.alloc o)):=jq (λo=>az.out.alloc (by omega) _);have bV:(0:Int)<=(k:Int):=by omega
   have bT:(k:Int)<(l.length:Int):=by omega
   have aS:=jq ar;have fl:=jq lP;obtain⟨ty,dC⟩:=aCQ x.set.type;have di:=jq dC;rw[dC] at e1;clear ar lP aO bh dC;by_cases dM:bb = []
   ·obtain rfl:sb=⟨#[]⟩:=mR (by rw[fl.out,dM]);have HX:=jq (HN.out (λh=>absurd dM h));clear dM;go_wp2_with fail;go_roundw
    case rel=>exact⟨k+1,by omega,by go_num,jq (aY.out _),jq HX.out⟩
    case measure=>simp[intOf] <;> omega
   ·have yf:(sb.toList == [])=false:=by rw[dQ,fl.out];simpa using dM
    have go:=jq dM;clear dM;by_cases ht:ty=2\/ty=1
    ·by_cases qG:x.sigs.length=0
     ·have HX:=jq (HN.out (λ_ _=>rQ qG));rw[qG] at e4;clear qG;rcases ht with rfl | rfl
      all_goals
       go_wp2_with fail;go_roundw
       case rel=>exact⟨k+1,by omega,by go_num,jq (aY.out _),jq HX.out⟩
       case measure=>simp[intOf] <;> omega
     ·have HX:Hid (r=false):=jq (HF.out λh=>qG (by rw[h go.out (by rw[di.out];exact ht)];rfl));have Xg:0<x.sigs.length:=by omega
      have aMK:(0:Int)<(x.sigs.length:Int):=by omega
      clear qG;rcases ht with rfl | rfl
      all_goals
       go_wp2_with fail;go_ret;exact⟨ag HX.out.symm,mS.out _⟩
    ·have HX:=jq (HN.out (λ_ h=>absurd (by rw[di.out] at h;exact h) ht));have t1:(ty == 2)=false:=by simp;omega
     have t2:(ty == 1)=false:=by simp;omega
     clear ht;go_wp2_with fail;go_roundw
     case rel=>exact⟨k+1,by omega,by go_num,jq (aY.out _),jq HX.out⟩
     case measure=>simp[intOf] <;> omega
  ·go_wp2_with fail;go_ret;refine⟨ag ?_,az.out⟩;rw[<-HR.out];exact (Np.ba λi x b hx hb=>HA.out i x b (by have:=(cQ.1 hx).1;omega) hx hb).symm
theorem U3(a:ByteArray)(v:Value)(A2:Option Addr)(n2 c2:Nat)(l:List Np.Signed)(w:World)(hd:SlR bP 5 w w.heap.size v l) :
 Calls prog 204 #[.agg #[.string a,v,.slice A2 n2 c2]] w (aFQ w.heap.size w (.bool (Np.yes (∀ x∈l,Np.dY a.data.toList x.sigs)))):=by
 obtain⟨r,hr⟩:=aCQ (Np.yes (∀ x∈l,Np.dY a.data.toList x.sigs));rw[hr];have HR:=jq hr;have HD:=jq hd;obtain⟨A,c,rfl,bq,bN⟩:=ak hd;clear hr hd;have HW:Hid (∀ o,Below w.heap.size w (w.alloc o)):=jq (λo=>(vQ _ w).alloc (bQ _) _);go_enter func204,ntmps204;go_wp2_with fail;obtain⟨w1,ah⟩:=aCQ (w.alloc (.cells #[.string a,.slice A l.length c,.slice A2 n2 c2] 265));have c2':w1.cell? ⟨w.heap.size,0,none⟩=some (.string a):=by rw[<-ah];simp[go_sem]
 have eh:w.heap.size<w1.heap.size:=by rw[<-ah];simp
 have aq:Hid (Below w.heap.size w w1):=jq (by rw[<-ah];exact HW.out _);rw[ah];clear ah;go_loopw [10] (λi wr=>∃ k:Nat,k<=l.length/\i = .int .i64 k/\Hid (Below w1.heap.size w1 wr)/\Hid (∀ j x,j<k->l[j]?=some x->Np.dY a.data.toList x.sigs)) (λi _=>l.length - (intOf i).toNat)
 case atStart=>exact⟨0,jQ _,rfl,jq (vQ _ _),jq (λj x hj=>by omega)⟩
 case round=>
  obtain⟨k,hk,rfl,HB,HA⟩:=hrel;have an:=HB.out.size;have az:=aBY aq HB.out;by_cases aa:k<l.length
  ·obtain⟨x,ac⟩:∃ x,l[k]?=some x:=⟨_,aQ aa⟩;obtain⟨b,o,c',sn,dv,sv,hA,bR,_,ar,cZ,aO,bh,e0,e1,e2,e3,e4⟩:=fR (HD.out.keep bH az.out) ac
   cases hA
   have HN:Hid (Np.dY a.data.toList x.sigs->∀ j x,j<k+1->l[j]?=some x->Np.dY a.data.toList x.sigs):=jq (λh j y hj hy=>by
    by_cases e:j=k
    ·subst e;rw[ac] at hy;cases hy;exact h
    ·exact HA.out j y (by omega) hy)
   have HF:Hid (¬ Np.dY a.data.toList x.sigs->r=false):=jq (λh=>by
    rw[<-HR.out];exact Np.aC λq=>h (q x (gQ ac)))
   clear ac;obtain⟨Ad,cd,rfl,_,_⟩:=ak aO;obtain⟨As,cs,rfl,_,_⟩:=ak bh;have hcell:wr.cell? ⟨w.heap.size,0,none⟩=some (.string a):=aBX HB.out c2';have Ge:=jq (bh.more eu (show w.heap.size<=wr.heap.size by omega));have dJ:w.heap.size<wr.heap.size:=by omega
   have aB:b<wr.heap.size:=by omega
   have aY:Hid (∀ o,Below w1.heap.size w1 (wr.alloc o)):=jq (λo=>HB.out.alloc HB.out.size _);have mS:Hid (∀ o,Below w.heap.size w (wr.alloc o)):=jq (λo=>az.out.alloc (by omega) _);have bV:(0:Int)<=(k:Int):=by omega
   have bT:(k:Int)<(l.length:Int):=by omega
   have aS:=jq ar;clear ar aO bh;go_wp2_with fail;refine (Yj a _ x.sigs _ (Ge.out.later dD eu ((vQ _ _).alloc (bQ _) _))).mono ?_;rintro e w2 ⟨rfl,hb⟩;have ai:Hid (Below wr.heap.size wr w2):=jq (((vQ _ _).alloc (bQ _) _).trans (hb.mono (by simp)));clear hb
   cases hf:Np.yes (Np.dY a.data.toList x.sigs) with
   | true=>
    have HX:=jq (HN.out (Np.fj.1 hf));clear hf;go_wp2_with fail;go_roundw
    case rel=>exact⟨k+1,by omega,by go_num,jq (HB.out.trans (ai.out.mono HB.out.size)),jq HX.out⟩
    case measure=>simp[intOf] <;> omega
   | false=>
    have HX:=jq (HF.out λh=>by rw[Np.ba h] at hf;cases hf);clear hf;go_wp2_with fail;go_ret;exact⟨ag HX.out.symm,az.out.trans (ai.out.aDQ)⟩
  ·go_wp2_with fail;go_ret;refine⟨ag ?_,az.out⟩;rw[<-HR.out];refine (Np.ba λx hx=>?_).symm;obtain⟨j,hj,rfl⟩:=nQ.1 hx;exact HA.out j _ (by omega) (aQ hj)
theorem avY{z:Np.Zone}(cg:z.sets.length<=20000):Np.VZone z↔(((((Np.fh z=true/\Np.ApexH z.apex z.sets)/\Np.yL z.sets)/\Np.pY z.sets (Np.ea z))/\Np.zO z.sets (Np.ea z))/\∀ x∈z.sets,Np.dY z.apex x.sigs):=by
 constructor
 ·intro h;refine⟨⟨⟨⟨⟨h.right,h.start,h.server,h.fits⟩,λk x hx ht=>⟨λp h0 hp he=>?_,λn hn he=>?_⟩⟩,h.cuts⟩,h.sigs⟩,h.form⟩
  ·obtain⟨hk,rfl⟩:=cQ.1 hx;obtain⟨bT,rfl⟩:=cQ.1 hp;obtain⟨m,rfl⟩:∃ m,k=m+1:=⟨k - 1,by omega⟩;exact h.aliasBefore m hk ht he
  ·obtain⟨hk,rfl⟩:=cQ.1 hx;obtain⟨bT,rfl⟩:=cQ.1 hn;exact h.aliasBehind k bT ht he
 ·rintro⟨⟨⟨⟨⟨h1,h2⟩,h3⟩,h4⟩,h5⟩,h6⟩;refine⟨h1,cg,h2.start,h2.server,h2.fits,λi hi ht he=>?_,λi hi ht he=>?_,h4,h5,h6⟩
  ·exact (h3 (i+1) _ (aQ hi) ht).1 _ (by omega) (aQ (by omega)) he
  ·exact (h3 i _ (aQ (by omega)) ht).2 _ (aQ hi) he
theorem sB{P:Prop}(h:Np.yes P=false):¬ P:=λhp=>by rw[Np.ba hp] at h;cases h
theorem Q4(a:ByteArray)(ha:a.size<=140737488355328)(v:Value)(l:List Np.Signed)(cg:l.length<=20000)(w:World)(hR:iR w w.heap.size)(hd:SlR bP 5 w w.heap.size v l) :
 Calls prog 120 #[.agg #[.string a,v]] w (aFQ w.heap.size w (.bool (Np.yes (Np.VZone ⟨a.data.toList,l⟩)))):=by
 obtain⟨r,hr⟩:=aCQ (Np.yes (Np.VZone ⟨a.data.toList,l⟩));rw[hr];have HR:Hid (Np.yes (((((Np.fh ⟨a.data.toList,l⟩=true/\Np.ApexH a.data.toList l)/\Np.yL l)/\Np.pY l (Np.ea ⟨a.data.toList,l⟩))/\Np.zO l (Np.ea ⟨a.data.toList,l⟩))/\∀ x∈l,Np.dY a.data.toList x.sigs)=r):=jq (by
  rw[<-hr];exact (Np.sw (avY (z:=⟨a.data.toList,l⟩) cg)).symm)
 have HD:=jq hd;have fV:=jq hR;obtain⟨A,c,rfl,bq,bN⟩:=ak hd;clear hr hd hR;have HW:Hid (∀ o o',Below w.heap.size w ((w.alloc o).alloc o')):=jq (λo o'=>((vQ _ w).alloc (bQ _) _).alloc (by simp) _);go_enter func120,ntmps120;go_wp2_with fail;obtain⟨w1,ah⟩:=aCQ ((w.alloc (.cells #[.string a,.slice A l.length c] 44)).alloc (.cells #[.string a,.slice A l.length c] 263));have c0:w1.cell? ⟨w.heap.size+1,0,none⟩=some (.string a):=by rw[<-ah];simp[go_sem]
 have c1:w1.cell? ⟨w.heap.size+1,1,none⟩=some (.slice A l.length c):=by rw[<-ah];simp[go_sem]
 have bk:w1.heap.size=w.heap.size+2:=by rw[<-ah];simp
 have aq:Hid (Below w.heap.size w w1):=jq (by rw[<-ah];exact HW.out _ _);rw[ah];clear ah;refine (aAY a ha _ l cg _ ((fV.out.keep aq.out).more (by omega)) (HD.out.later bH dH aq.out)).mono ?_;rintro e w2 ⟨rfl,ae⟩;have aK:=ae.size;have ai:=aBY aq ae;have d0:w2.cell? ⟨w.heap.size+1,0,none⟩=some (.string a):=aBX ae c0;have d1:w2.cell? ⟨w.heap.size+1,1,none⟩=some (.slice A l.length c):=aBX ae c1;clear ae c0 c1
 cases eM:Np.fh ⟨a.data.toList,l⟩ with
 | false=>
  have HX:Hid (r=false):=jq (by rw[<-HR.out];exact Np.aC λh=>by rw[eM] at h;cases h.1.1.1.1.1);clear eM;go_wp2_with fail;go_ret;exact⟨ag HX.out.symm,ai.out⟩
 | true=>
  have ix:=jq eM;have ho:=Np.VZone.inOrder eM;have HS:=jq (aoK ho);have qI:=eM;unfold Np.fh at qI;simp only[Bool.and_eq_true] at qI;have NA:=jq qI.1.1;have HV:Hid (∀ x∈l,Np.aA x.set.name=true):=jq (λx hx=>EM (Np.Da qI.2 x hx));clear eM qI ho;go_wp2_with fail;refine (Ts a ha NA.out _ l cg HV.out HS.out _ (HD.out.later bH dH ai.out)).mono ?_;rintro e w3 ⟨rfl,al⟩;have eF:=al.size;have am:=aBY ai al;replace d0:=aBX al d0;replace d1:=aBX al d1;clear al
  cases u7:Np.yes (Np.ApexH a.data.toList l) with
  | false=>
   have HX:Hid (r=false):=jq (by rw[<-HR.out];exact Np.aC λh=>sB u7 h.1.1.1.1.2);clear u7;go_wp2_with fail;go_ret;exact⟨ag HX.out.symm,am.out⟩
  | true=>
   have uf:=jq (Np.fj.1 u7);clear u7;go_wp2_with fail;refine (YU a _ l cg HV.out HS.out _ (HD.out.later bH dH am.out)).mono ?_;rintro e w4 ⟨⟨bv,rfl,il⟩,aw⟩;have fd:=aw.size;have aP:=aBY am aw;obtain⟨A2,c2,rfl,fF,eK⟩:=ak il;have bD:(Np.ea ⟨a.data.toList,l⟩).length=l.length:=Np.sX _;rw[bD] at fF eK il |-;clear bD;have Rr:=jq il;clear aw il d0 d1;go_wp2_with fail;obtain⟨w5,aW⟩:=aCQ (w4.alloc (.cells #[.string a,.slice A l.length c,.slice A2 l.length c2] 265));have g0:w5.cell? ⟨w4.heap.size,0,none⟩=some (.string a):=by rw[<-aW];simp[go_sem]
   have g1:w5.cell? ⟨w4.heap.size,1,none⟩=some (.slice A l.length c):=by rw[<-aW];simp[go_sem]
   have g2:w5.cell? ⟨w4.heap.size,2,none⟩=some (.slice A2 l.length c2):=by rw[<-aW];simp[go_sem]
   have iJ:w5.heap.size=w4.heap.size+1:=by rw[<-aW];simp
   have p9:Hid (Below w4.heap.size w4 w5):=jq (by rw[<-aW];exact (vQ _ _).alloc (bQ _) _);have cm:Hid (Below w.heap.size w w5):=aBY aP p9.out;have qk:Hid (∀ wx,Below w.heap.size w wx->w.heap.size<=wx.heap.size->SlR bP 5 wx wx.heap.size (.slice A l.length c) l):=jq (λwx hb _=>HD.out.later bH dH hb);have Ku:Hid (∀ wx,Below w4.heap.size w4 wx->SlR RTx 1 wx wx.heap.size (.slice A2 l.length c2) (Np.ea ⟨a.data.toList,l⟩)):=jq (λwx hb=>Rr.out.later nT PV hb);have HL:Hid ((Np.ea ⟨a.data.toList,l⟩).length=l.length):=jq (Np.sX _);rw[aW];clear aW;refine (Tk a _ A2 l.length c2 l cg _ (qk.out _ cm.out cm.out.size)).mono ?_;rintro e w6 ⟨rfl,aR⟩;have iq:=aR.size;have du:=aBY cm aR;have sE:=aBY p9 aR;replace g0:=aBX aR g0;replace g1:=aBX aR g1;replace g2:=aBX aR g2;clear aR
   cases rP:Np.yes (Np.yL l) with
   | false=>
    have HX:Hid (r=false):=jq (by rw[<-HR.out];exact Np.aC λh=>sB rP h.1.1.1.2);clear rP;go_wp2_with fail;go_ret;exact⟨ag HX.out.symm,du.out⟩
   | true=>
    have F0:=jq (Np.fj.1 rP);clear rP;go_wp2_with fail;refine (Uu a _ _ l _ HL.out _ (qk.out _ du.out du.out.size) (Ku.out _ sE.out)).mono ?_;rintro e w7 ⟨rfl,ep⟩;have nN:=ep.size;have cr:=aBY du ep;have Rg:=aBY sE ep;replace g0:=aBX ep g0;replace g1:=aBX ep g1;replace g2:=aBX ep g2;clear ep
    cases Bq:Np.yes (Np.pY l (Np.ea ⟨a.data.toList,l⟩)) with
    | false=>
     have HX:Hid (r=false):=jq (by rw[<-HR.out];exact Np.aC λh=>sB Bq h.1.1.2);clear Bq;go_wp2_with fail;go_ret;exact⟨ag HX.out.symm,cr.out⟩
    | true=>
     have Su:=jq (Np.fj.1 Bq);clear Bq;go_wp2_with fail;refine (anJ a _ _ l _ HL.out _ (qk.out _ cr.out cr.out.size) (Ku.out _ Rg.out)).mono ?_;rintro e w8 ⟨rfl,dS⟩;have qL:=dS.size;have ew:=aBY cr dS;replace g0:=aBX dS g0;replace g1:=aBX dS g1;replace g2:=aBX dS g2;clear dS
     cases lh:Np.yes (Np.zO l (Np.ea ⟨a.data.toList,l⟩)) with
     | false=>
      have HX:Hid (r=false):=jq (by rw[<-HR.out];exact Np.aC λh=>sB lh h.1.2);clear lh;go_wp2_with fail;go_ret;exact⟨ag HX.out.symm,ew.out⟩
     | true=>
      have Cy:=jq (Np.fj.1 lh);clear lh;go_wp2_with fail;refine (U3 a _ A2 l.length c2 l _ (qk.out _ ew.out ew.out.size)).mono ?_;rintro e w9 ⟨rfl,fN⟩;have tN:=fN.size;have eS:=aBY ew fN;replace g0:=aBX fN g0;replace g1:=aBX fN g1;replace g2:=aBX fN g2;clear fN
      cases aG:Np.yes (∀ x∈l,Np.dY a.data.toList x.sigs) with
      | false=>
       have HX:Hid (r=false):=jq (by rw[<-HR.out];exact Np.aC λh=>sB aG h.2);clear aG;go_wp2_with fail;go_ret;exact⟨ag HX.out.symm,eS.out⟩
      | true=>
       have Sv:=jq (Np.fj.1 aG);clear aG;go_wp2_with fail;go_ret;exact⟨ag (by rw[<-HR.out];exact (Np.ba ⟨⟨⟨⟨⟨ix.out,uf.out⟩,F0.out⟩,Su.out⟩,Cy.out⟩,Sv.out⟩).symm),eS.out⟩
def cG(base:Nat)(w:World)(v:Value)(ps:List (List UInt8)):Prop:=w.ownsRow base 9 1 v ps.length (ps.map av)
theorem cG.form{base:Nat}{w:World}{v:Value}{ps:List (List UInt8)}(h:cG base w v ps):∃ A c,v = .slice A ps.length c:=yr h
theorem cG.alloc{base:Nat}{w:World}{v:Value}{ps:List (List UInt8)}(h:cG base w v ps)(o:Obj):cG base (w.alloc o) v ps:=World.ownsRow.alloc h o
theorem cG.keep{base:Nat}{w w':World}{v:Value}{ps:List (List UInt8)}(h:cG base w v ps)(hb:Below w.heap.size w w'):cG base w' v ps:=gY h (λg hg=>hb.block g (h.lt g hg).2)
theorem cG.slr{base:Nat}{w:World}{v:Value}{ps:List (List UInt8)}(h:cG base w v ps)(hl:ps.length<=140737488355328)(an:∀ x∈ps,x.length<=140737488355328):SlR RTx 1 w w.heap.size v ps:=by
 refine Jw (sz:=1) (e:=9) (base:=base) (λx=>[av x]) (λ_ _=>rfl) ?_ hl (λx hx=>⟨⟨x.toArray⟩,by simp,an x hx,rfl⟩)
 have:w.ownsRow base 9 1 v ps.length (ps.map av):=h
 simpa [O0] using this
section
variable {ops:Array Oper} {rest:List Oper} {o:Oper} {a:Act} {Q:Exit->Act->World->Prop}
theorem yJ(w:World)(iU:o.guard=none)(s x:Operand)(ho:o.op = .call { callee:=.builtin .append,args:=#[s,x],argTypes:=#[116,116] })
 (base:Nat) (v:Value) (ps:List (List UInt8)) (hs:a.eval s=v) (hown:cG base w v ps) (blk:Nat) (y:List UInt8) (hx:a.eval x = .slice (some ⟨blk,0,none⟩) 1 1) (hc:w.cell? ⟨blk,0,none⟩=some (av y)) (hlen:ps.length<=100000) (eC:base<=w.heap.size)
 (h:∀ v' w',cG base w' v' (ps ++ [y])->Below base w w'->wpList prog ops Q rest (a.put o.dst v') w'):wpList prog ops Q (o::rest) a w:=by
 obtain⟨i0,hi,db,bk,aK⟩:=info_parts Tryz.infoStr;refine wpList_append_own_at w iU s x 116 ho base 9 i0 (.string ⟨#[]⟩) 1 16 underlying116 hi db bk aK rfl (by decide) v ps.length (ps.map av) hs hown ⟨blk,0,none⟩ 1 1 [av y] hx rfl ?_ (by simp[Value.oneCell']) (by unfold maxLen;omega) (by omega) eC ?_
 ·intro j u hj
  cases j with
  | zero=>simp at hj;subst hj;simpa [Addr.add] using hc
  | succ j=>simp at hj
 ·intro v' w' ho' hg _ _;refine h v' w' ?_ ((vQ _ _).grown hg eC (λk hk=>(hown.lt k hk).1));have e:(ps ++ [y]).length=ps.length+1:=by simp
  unfold cG;rw[e,List.map_append];exact ho'
end
theorem aeJ(a:ByteArray)(v:Value)(l:List Np.Signed)(cg:l.length<=20000)(w:World)(hd:SlR bP 5 w w.heap.size v l) :
 Calls prog 349 #[.agg #[.string a,v]] w (wR RTx 1 w (Np.cP a.data.toList l)):=by
 have HD:=jq hd;obtain⟨A,c,rfl,bq,bN⟩:=ak hd;clear hd;have mV:Hid (∀ k,(Np.cP a.data.toList (l.take k)).length<=20000):=jq (λk=>by
  unfold Np.cP;rw[List.length_map];exact yQ (List.length_filter_le _ _) (by rw[List.length_take];omega))
 have HW:Hid (∀ o,Below w.heap.size w (w.alloc o)):=jq (λo=>(vQ _ w).alloc (bQ _) _);have kI:Hid (∀ x∈Np.cP a.data.toList l,x.length<=140737488355328):=jq (λx hx=>by
  unfold Np.cP at hx;obtain⟨y,hy,rfl⟩:=List.mem_map.1 hx;obtain⟨j,hj,rfl⟩:=nQ.1 (List.mem_filter.1 hy).1;obtain⟨_,_,_,s,_,_,_,_,_,hs,hz,_⟩:=fR HD.out (aQ hj);rw[<-hs,aX];exact hz)
 go_enter func349,ntmps349;go_wp2_with fail;obtain⟨w1,ah⟩:=aCQ (w.alloc (.cells #[.string a,.slice A l.length c] 44));have c0:w1.cell? ⟨w.heap.size,0,none⟩=some (.string a):=by rw[<-ah];simp[go_sem]
 have c1:w1.cell? ⟨w.heap.size,1,none⟩=some (.slice A l.length c):=by rw[<-ah];simp[go_sem]
 have bk:w1.heap.size=w.heap.size+1:=by rw[<-ah];simp
 have aq:Hid (Below w.heap.size w w1):=jq (by rw[<-ah];exact HW.out _);rw[ah];clear ah;go_loopw [3,4] (λvo i wr=>∃ (k:Nat),k<=l.length/\i = .int .i64 k/\Hid (Below w1.heap.size w1 wr)/\Hid (cG w1.heap.size wr vo (Np.cP a.data.toList (l.take k)))) (λ_ i _=>l.length - (intOf i).toNat)
 case atStart=>exact⟨0,jQ _,rfl,jq (vQ _ _),jq ⟨by simp,.inl ⟨rfl,rfl⟩⟩⟩
 case round=>
  obtain⟨k,hk,rfl,HB,HO⟩:=hrel;have an:=HB.out.size;have d0:wr.cell? ⟨w.heap.size,0,none⟩=some (.string a):=aBX HB.out c0;have d1:wr.cell? ⟨w.heap.size,1,none⟩=some (.slice A l.length c):=aBX HB.out c1;have az:=aBY aq HB.out;have dJ:w.heap.size<wr.heap.size:=by omega
  by_cases aa:k<l.length
  ·obtain⟨x,ac⟩:∃ x,l[k]?=some x:=⟨_,aQ aa⟩;obtain⟨b,o,c',sn,dv,sv,hA,bR,_,ar,cZ,aO,bh,f0,f1,f2,f3,f4⟩:=fR (HD.out.keep bH az.out) ac
   cases hA
   obtain⟨Ad,cd,rfl,_,_⟩:=ak aO;have HT:Hid (Np.cP a.data.toList (l.take (k+1))=if x.set.type=2/\x.set.name≠a.data.toList then Np.cP a.data.toList (l.take k) ++ [x.set.name] else Np.cP a.data.toList (l.take k)):=jq (by
    obtain⟨hl,he⟩:=cQ.1 ac;rw[fQ hl,Np.Uv,he])
   have aS:=jq ar;have bV:(0:Int)<=(k:Int):=by omega
   have bT:(k:Int)<(l.length:Int):=by omega
   have aB:b<wr.heap.size:=by omega
   have aY:Hid (∀ o,Below w1.heap.size w1 (wr.alloc o)):=jq (λo=>HB.out.alloc HB.out.size _);have lB:=jq (mV.out k);clear ac ar aO bh f4;by_cases h2:x.set.type=2
   ·have ae:(x.set.type == 2)=true:=by simpa using h2
    by_cases hn:x.set.name=a.data.toList
    ·have jh:(!sn.toList == a.toList)=false:=by rw[dQ,dQ,aS.out,hn];simp
     have kF:=jq (HT.out.trans (Qc λh=>h.2 hn));clear h2 hn;go_wp2_with fail;go_roundw
     case rel=>exact⟨k+1,by omega,by go_num,jq (aY.out _),jq (by rw[kF.out];exact HO.out.alloc _)⟩
     case measure=>simp[intOf] <;> omega
    ·have jh:(!sn.toList == a.toList)=true:=by rw[dQ,dQ,aS.out];simpa using hn
     have kF:=jq (HT.out.trans (Qb ⟨h2,hn⟩));clear h2 hn;go_wp2_with (at_builtin;refine yJ _ rfl _ _ rfl w1.heap.size _ (Np.cP a.data.toList (l.take k)) rfl ((HO.out.alloc _).alloc _) (wr.heap.size+1) sn.data.toList (by simp[go_sem]) (by simp[go_sem]) (by have:=lB.out;omega) (by simp;omega) ?_;intro v5 w5 gS aJ;have H5:=jq (And.intro gS aJ);clear gS aJ);go_roundw
     case rel=>exact⟨k+1,by omega,by go_num,jq (((aY.out _).alloc (by simp;omega) _).trans H5.out.2),jq (by rw[kF.out,<-aS.out];exact H5.out.1)⟩
     case measure=>simp[intOf] <;> omega
   ·have ae:(x.set.type == 2)=false:=by simpa using h2
    have kF:=jq (HT.out.trans (Qc λh=>h2 h.1));clear h2;go_wp2_with fail;go_roundw
    case rel=>exact⟨k+1,by omega,by go_num,jq (aY.out _),jq (by rw[kF.out];exact HO.out.alloc _)⟩
    case measure=>simp[intOf] <;> omega
  ·have HE:Hid (l.take k=l):=jq (kQ (by omega));go_wp2_with fail;go_ret;refine⟨_,rfl,?_,az.out⟩;have h1:=HO.out;have h2:=mV.out k;rw[HE.out] at h1 h2;exact h1.slr (by omega) kI.out
theorem Nv(l:List (List UInt8)):∀ k,(Np.er (l.take k)).length<=k:=by
 intro k;have key:∀ (r o:List (List UInt8)),(r.foldl Np.oN o).length<=o.length+r.length:=by
  intro r
  induction r with
  | nil=>intro o;simp
  | cons c r ih=>
   intro o;have h1:(Np.oN o c).length<=o.length+1:=by
    unfold Np.oN
    cases o.getLast? with
    | none=>simp
    | some q=>dsimp only;split <;> simp
   have:=ih (Np.oN o c)
   rw[List.foldl_cons,List.length_cons];omega
 have:=key (l.take k) []
 rw[List.length_take] at this;unfold Np.er;simp at this;omega
theorem Ih(l:List (List UInt8)):∀ x∈Np.er l,x∈l:=by
 have key:∀ (r o:List (List UInt8)),∀ x∈r.foldl Np.oN o,x∈o\/x∈r:=by
  intro r
  induction r with
  | nil=>intro o x hx;exact .inl hx
  | cons c r ih=>
   intro o x hx;rcases ih _ x hx with h | h
   ·unfold Np.oN at h
    cases hg:o.getLast? with
    | none=>rw[hg] at h;simp at h;exact .inr (by simp[h])
    | some q=>
     rw[hg] at h;dsimp only at h;split at h
     ·exact .inl h
     ·rcases List.mem_append.1 h with h | h
      ·exact .inl h
      ·simp at h;exact .inr (by simp[h])
   ·exact .inr (mQ _ h)
 intro x hx;rcases key l [] x hx with h | h
 ·cases h
 ·exact h
theorem so{x:List UInt8}(h:Np.aA x=true):x.length<=60:=by
 unfold Np.aA at h;split at h
 ·rename_i e;rw[e];decide
 ·split at h
  ·cases h
  ·omega
theorem afQ(a:ByteArray)(v:Value)(l:List Np.Signed)(cg:l.length<=20000)(hv:∀ x∈l,Np.aA x.set.name=true)(w:World)(hd:SlR bP 5 w w.heap.size v l) :
 Calls prog 305 #[.agg #[.string a,v]] w (wR RTx 1 w (Np.er (Np.cP a.data.toList l))):=by
 have HD:=jq hd;obtain⟨A,c,rfl,bq,bN⟩:=ak hd;have HW:Hid (∀ o,Below w.heap.size w (w.alloc o)):=jq (λo=>(vQ _ w).alloc (bQ _) _);have lF:Hid (∀ x∈Np.cP a.data.toList l,Np.aA x=true):=jq (λx hx=>by
  unfold Np.cP at hx;obtain⟨y,hy,rfl⟩:=List.mem_map.1 hx;exact hv y (List.mem_filter.1 hy).1)
 clear hd hv;go_enter func305,ntmps305;go_wp2_with fail;refine (aeJ a _ l cg _ (HD.out.later bH dH (HW.out _))).mono ?_;rintro e w1 ⟨vc,rfl,IP,aB⟩;have bk:w.heap.size<w1.heap.size:=by have:=aB.size;simp at this;omega
 have aq:=jq ((HW.out _).trans (aB.mono (by simp)));clear aB;have lK:(Np.cP a.data.toList l).length<=20000:=by
  unfold Np.cP;rw[List.length_map];exact yQ (List.length_filter_le _ _) cg
 generalize Np.cP a.data.toList l=cs at *;obtain⟨Ac,cc,rfl,td,aGY⟩:=ak IP;have HC:=jq IP;clear IP;go_wp2_with fail;go_loopw [4,5] (λvo i wr=>∃ (k:Nat),k<=cs.length/\i = .int .i64 k/\Hid (Below w1.heap.size w1 wr)/\Hid (cG w1.heap.size wr vo (Np.er (cs.take k)))) (λ_ i _=>cs.length - (intOf i).toNat)
 case atStart=>exact⟨0,jQ _,rfl,jq (vQ _ _),jq ⟨by simp,.inl ⟨rfl,rfl⟩⟩⟩
 case round=>
  obtain⟨k,hk,rfl,HB,HO⟩:=hrel;have an:=HB.out.size;have az:=aBY aq HB.out;have iM:Hid (∀ x∈Np.er (cs.take k),x.length<=140737488355328):=jq (λx hx=>by
   have:=so (lF.out x (List.mem_of_mem_take (Ih _ x hx)))
   omega)
  have lB:Hid ((Np.er (cs.take k)).length<=20000):=jq (by have:=Nv cs k;omega);by_cases aa:k<cs.length
  ·obtain⟨x,ac⟩:∃ x,cs[k]?=some x:=⟨_,aQ aa⟩;obtain⟨b,o,sn,rfl,bR,ar,cZ,f0⟩:=qX (HC.out.keep nT HB.out) ac;have SU:Hid (Np.aA x=true):=jq (lF.out x (gQ ac));have HT:Hid (Np.er (cs.take (k+1))=Np.oN (Np.er (cs.take k)) x):=jq (by
    obtain⟨hl,he⟩:=cQ.1 ac;rw[fQ hl,Np.Ns,he])
   have aS:=jq ar;have bV:(0:Int)<=(k:Int):=by omega
   have bT:(k:Int)<(cs.length:Int):=by omega
   have aB:b<wr.heap.size:=by omega
   have qD:∀ (g:bE wr) (p:Addr),p.block<wr.heap.size->g.w.cell? p=wr.cell? p:=λg p h=>g.cell p h;have FU:=jq (HO.out.slr (by have:=lB.out;omega) iM.out);have Sh:Hid (∀ y∈Np.er (cs.take k),Np.aA y=true):=jq (λy hy=>lF.out y (List.mem_of_mem_take (Ih _ y hy)));clear ac ar;generalize Np.er (cs.take k)=out at *;obtain⟨Ao,co,rfl⟩:=HO.out.form;by_cases h0:out.length=0
   ·obtain rfl:out = []:=rQ h0;have kF:Hid (Np.er (cs.take (k+1)) = [] ++ [x]):=jq (by rw[HT.out];rfl);clear h0;go_wp2_with fail;refine aEK ?_
    repeat (go_big_quiet_step (fail))
    refine wpQuiet_nil ?_;rintro _ ⟨g,rfl⟩;have HG:=jq g.below;have ji:=g.size;have fg:g.w.cell? ⟨b,o+k,none⟩=some (.string sn):=(qD g _ aB).trans f0;have FV:=jq (HO.out.keep g.below);generalize g.w=w2 at *;go_wp2_with (at_builtin;refine yJ _ rfl _ _ rfl w1.heap.size _ [] rfl (FV.out.alloc _) w2.heap.size sn.data.toList (by simp[go_sem]) (by simp[go_sem]) (by simp) (by simp;omega) ?_;intro v5 w5 gS aJ;have H5:=jq (And.intro gS aJ);clear gS aJ);go_roundw
    case rel=>exact⟨k+1,by omega,by go_num,jq (((HB.out.trans (HG.out.aDQ)).alloc (by omega) _).trans H5.out.2),jq (by rw[kF.out,<-aS.out];exact H5.out.1)⟩
    case measure=>simp[intOf] <;> omega
   ·obtain⟨n,hn⟩:∃ n,out.length=n+1:=⟨out.length - 1,by omega⟩;obtain⟨q,hq⟩:∃ q,out[n]?=some q:=⟨_,aQ (by omega)⟩;obtain⟨b2,o2,sq,rfl,xV,jP,aNK,g0⟩:=qX FU.out hq;have Bi:out.getLast?=some q:=by rw[List.getLast?_eq_getElem?,hn];exact hq
    have kF:Hid (Np.er (cs.take (k+1))=if Np.bi x q=true then out else out ++ [x]):=jq (by rw[HT.out,Np.oN,Bi]);have Lg:Hid (Np.aA q=true):=jq (Sh.out q (gQ hq));obtain⟨bu,Hn⟩:=aCQ (Np.bi x q);have ci:∀ g:bE wr,Calls prog 222 #[.string sn,.string sq] g.w λe w'=>e = .returned (.bool bu)/\Below g.w.heap.size g.w w':=λg=>by
     have kr:q≠[]:=λe=>by have:=Lg.out;rw[e] at this;exact absurd this (by decide)
     rw[<-Hn,<-Np.yn kr,<-aS.out,<-jP];have s1:=so SU.out;have s2:=so Lg.out;rw[<-aS.out,aX] at s1;rw[<-jP,aX] at s2;exact BV sn sq (by omega) (by omega) _
    have nX:=jq ci;have sF:=jq Hn;obtain⟨N,hN⟩:=aCQ out.length;have HN:=jq hN;have vH:((N:Int) == 0)=false:=by rw[beq_eq_false_iff_ne];omega
    have ah:IntKind.i64.wrap ((N:Int) - 1)=(n:Int):=by rw[IntWalk.i64_in _ (by have:=lB.out;omega)];omega
    have nE:(0:Int)<=(n:Int):=by omega
    have qE:(n:Int)<(N:Int):=by omega
    have KK:Hid (cG w1.heap.size wr (.slice (some ⟨b2,o2,none⟩) N co) out):=jq (by rw[<-hN];exact HO.out);rw[hN];clear hn hq jP Bi ci Hn h0 hN
    cases bu with
    | true=>
     have y8:=jq (kF.out.trans (Qb sF.out));go_wp2_with fail;refine aEK ?_
     repeat (go_big_quiet_step ((go_at_call 222;exact Calls.grow_of (nX.out _))))
     refine wpQuiet_nil ?_;rintro _ ⟨g,rfl⟩;go_wp2_with fail;go_roundw
     case rel=>exact⟨k+1,by omega,by go_num,aBY HB g.below,jq (by rw[y8.out];exact KK.out.keep g.below)⟩
     case measure=>simp[intOf] <;> omega
    | false=>
     have y8:=jq (kF.out.trans (Qc (by rw[sF.out];simp)));go_wp2_with fail;refine aEK ?_
     repeat (go_big_quiet_step ((go_at_call 222;exact Calls.grow_of (nX.out _))))
     refine wpQuiet_nil ?_;rintro _ ⟨g,rfl⟩;have HG:=jq g.below;have ji:=g.size;have fg:g.w.cell? ⟨b,o+k,none⟩=some (.string sn):=(qD g _ aB).trans f0;have FV:=jq (KK.out.keep g.below);clear qD;generalize g.w=w2 at *;go_wp2_with (at_builtin;refine yJ _ rfl _ _ rfl w1.heap.size _ out rfl (FV.out.alloc _) w2.heap.size sn.data.toList (by simp[go_sem]) (by simp[go_sem]) (by have:=lB.out;omega) (by simp;omega) ?_;intro v5 w5 gS aJ;have H5:=jq (And.intro gS aJ);clear gS aJ);go_roundw
     case rel=>exact⟨k+1,by omega,by go_num,jq (((HB.out.trans (HG.out.aDQ)).alloc (by omega) _).trans H5.out.2),jq (by rw[y8.out,<-aS.out];exact H5.out.1)⟩
     case measure=>simp[intOf] <;> omega
  ·have HE:Hid (cs.take k=cs):=jq (kQ (by omega));go_wp2_with fail;go_ret;refine⟨_,rfl,?_,az.out⟩;have h1:=HO.out;have h2:=lB.out;have h3:=iM.out;rw[HE.out] at h1 h2 h3;exact h1.slr (by omega) h3
end
end Go.Proofs.YtfnopgdcaanaiaaGreatDoor
