/- Parts of the proof. No condition. -/
import Derived.Test.YtfnopgdcaanaiaaGreatDoorV06
import Derived.Test.YtfnopgdcaanaiaaGreatDoorV07
set_option linter.all false
set_option maxRecDepth 100000
set_option maxHeartbeats 8000000
namespace Go.Proofs.YtfnopgdcaanaiaaGreatDoor
open Go.Proofs.Tryz
section
open Go.RowKit
def RTx(_:World)(_:Nat)(e:List Value)(x:List UInt8):Prop:=∃ s:ByteArray,s.data.toList=x/\s.size<=140737488355328/\e = [.string s]
theorem mS:dH RTx:=λ_ _ _ _ _ h _=>h
theorem JY:eh RTx:=λ_ _ _ _ _ h _=>h
def gI(a:List UInt8)(l:List Np.Signed):List (List UInt8×Value):=(l.filter λx=>decide (x.set.type=2)&&!(x.set.name == a)).map λx=>(x.set.name,.bool true)
theorem Vp(a:List UInt8)(l:List Np.Signed)(x:Np.Signed):gI a (l ++ [x])=if x.set.type=2/\x.set.name≠a then gI a l ++ [(x.set.name,.bool true)] else gI a l:=by
 unfold gI;rw[List.filter_append];by_cases h1:x.set.type=2 <;> by_cases h2:x.set.name=a <;> simp[h1,h2]
theorem Vo(a:List UInt8)(l:List Np.Signed)(x:Np.Signed):gI a (x::l)=if x.set.type=2/\x.set.name≠a then (x.set.name,.bool true)::gI a l else gI a l:=by
 unfold gI;by_cases h1:x.set.type=2 <;> by_cases h2:x.set.name=a <;> simp[h1,h2]
theorem Dn(a:List UInt8)(n:List UInt8):∀ l:List Np.Signed,((gI a l).lookup n).getD (.bool false) = .bool (Np.cS ⟨a,l⟩ n)/\((∀ x∈l,x.set.type=2->x.set.name≠n)->(gI a l).lookup n=none)
 | []=>⟨rfl,λ_=>rfl⟩
 | x::l=>by
   obtain⟨i1,i2⟩:=Dn a n l;have e:Np.cS ⟨a,x::l⟩ n=((decide (x.set.type=2)&&!(x.set.name == a)&&x.set.name == n)||Np.cS ⟨a,l⟩ n):=rfl;rw[Vo];split
   ·rename_i h;by_cases hn:x.set.name=n
    ·rw[hn,List.lookup_cons_self];refine⟨?_,λhh=>absurd hn (hh x (by simp) h.1)⟩;rw[e];have h2:=h.2;rw[hn] at h2 |-;simp[h.1,h2]
    ·have hb:(n == x.set.name)=false:=by simpa using λe=>hn e.symm
     rw[List.lookup_cons,hb];refine⟨?_,λhh=>i2 λy hy=>hh y (mQ _ hy)⟩;have ac:(x.set.name == n)=false:=by simpa using hn
     rw[e,ac,Bool.and_false,Bool.false_or];exact i1
   ·rename_i h;refine⟨?_,λhh=>i2 λy hy=>hh y (mQ _ hy)⟩;have hf:(decide (x.set.type=2)&&!(x.set.name == a))=false:=by
     rw[Bool.and_eq_false_iff];by_cases h1:x.set.type=2
     ·right
      have:x.set.name=a:=Decidable.not_not.1 λh2=>h ⟨h1,h2⟩
      simp[this]
     ·left;simpa using h1
    rw[e,hf,Bool.false_and,Bool.false_or];exact i1
theorem JE(n j:Nat)(hj:j<n):(madeCells #[Value.string ⟨#[]⟩] n)[j]?=some (.string ⟨#[]⟩):=by
 unfold madeCells;simp[hj,Nat.mod_one]
theorem Tryz.infoStrZ:(prog.info? 9).map (λi=>(i.zero,i.size,i.bytes))=some (some (.string ⟨#[]⟩),1,16):=by kernel_rfl
theorem JF(n:Nat)(hn:n<=20000)(w:World):(Instr.makeSlice 116 (.int .i64 n) (.int .i64 n)).run prog w = .ok (.slice (some ⟨w.heap.size,0,none⟩) n n) (w.alloc (.cells (madeCells #[Value.string ⟨#[]⟩] n) 9)):=by
 obtain⟨i,hi,hp⟩:=Option.map_eq_some_iff.1 Tryz.infoStrZ;simp only[Prod.mk.injEq] at hp;obtain⟨hz,hs,hb⟩:=hp
 have:=run_make (P:=prog) w 116 9 i (.string ⟨#[]⟩) underlying116 hi hz .i64 .i64 n n (by omega) (Int.le_refl _) (by rw[hb];omega) (by omega)
 rw[hs] at this;simpa [Value.cells] using this
def fp(w:World)(B:Nat)(xs:List (List UInt8)):Prop:=∀ j x,xs[j]?=some x->∃ s:ByteArray,s.data.toList=x/\s.size<=140737488355328/\w.cell? ⟨B,j,none⟩=some (.string s)/\w.frozen? ⟨B,j,none⟩=false
theorem fp.keep{w w':World}{B n:Nat}{xs:List (List UInt8)}(h:fp w B xs)(hb:Below n w w')(hB:B<n):fp w' B xs:=λj x hx=>by
 obtain⟨s,h1,h2,h3,h4⟩:=h j x hx;exact⟨s,h1,h2,(hb.cell (p:=⟨B,j,none⟩) hB).trans h3,(hb.frozen (p:=⟨B,j,none⟩) hB).trans h4⟩
theorem fp.store{w:World}{B:Nat}{xs:List (List UInt8)}(h:fp w B xs){k:Nat}(hk:k<xs.length)(s:ByteArray)(hs:s.size<=140737488355328):fp (w.setCell ⟨B,k,none⟩ (.string s)) B (xs.set k s.data.toList):=λj x hx=>by
 rw[List.getElem?_set] at hx;by_cases Bt:k=j
 ·subst Bt;rw[Qb rfl,Qb hk] at hx
  cases hx
  obtain⟨s0,_,_,h3,h4⟩:=h k _ (aQ hk);exact⟨s,rfl,hs,by simp[World.cell?_setCell_same,h3],(World.frozen?_setCell _ _ _ _).trans h4⟩
 ·rw[Qc Bt] at hx;obtain⟨s0,h1,h2,h3,h4⟩:=h j x hx;exact⟨s0,h1,h2,by rw[xQ _ _ _ _ (by simp <;> omega)];exact h3,(World.frozen?_setCell _ _ _ _).trans h4⟩
theorem fp.other{w:World}{B:Nat}{xs:List (List UInt8)}(h:fp w B xs){p:Addr}(hp:p.block≠B)(u:Value):fp (w.setCell p u) B xs:=λj x hx=>by
 obtain⟨s,h1,h2,h3,h4⟩:=h j x hx;exact⟨s,h1,h2,(xQ _ _ _ _ (λe=>hp (by rw[e]))).trans h3,(World.frozen?_setCell _ _ _ _).trans h4⟩
theorem fp.slr{w:World}{B:Nat}{xs:List (List UInt8)}(h:fp w B xs)(hB:B<w.heap.size)(hl:xs.length<=140737488355328):SlR RTx 1 w w.heap.size (.slice (some ⟨B,0,none⟩) xs.length xs.length) xs:=
 ⟨_,_,rfl,bQ _,hl,λj x hx=>by
  obtain⟨s,h1,h2,h3,_⟩:=h j x hx;refine⟨B,0,[.string s],rfl,hB,rfl,λi v hv=>?_,s,h1,h2,rfl⟩
  match i,hv with
  | 0,hv=>cases hv;simpa using h3⟩
theorem QH{bs:List (List UInt8)}{n k:Nat}{b:List UInt8}(hn:bs.length=n)(hb:bs[k]?=some b):(bs.take k++List.replicate (n - k) []).set k b=bs.take (k+1)++List.replicate (n - (k+1)) []:=by
 obtain⟨hk,rfl⟩:=cQ.1 hb;have e:n - k=(n - (k+1))+1:=by omega
 rw[e,List.replicate_succ,List.set_append_right _ _ (by rw[List.length_take];omega),List.length_take,show k - min k bs.length=0 by omega,List.set_cons_zero,fQ hk,List.append_assoc];rfl
structure LayK(w:World)(M Bl Bs:Nat)(a:ByteArray)(v sl:Value)(kv:List (List UInt8×Value))(wr:World)(bs:List (List UInt8)):Prop where
 below:Below w.heap.size w wr
 b0:wr.cell? ⟨w.heap.size,0,none⟩=some (.string a)
 b1:wr.cell? ⟨w.heap.size,1,none⟩=some v
 r0:wr.cell? ⟨w.heap.size+1,0,none⟩=some (.string ⟨#[]⟩)
 r1:wr.cell? ⟨w.heap.size+1,1,none⟩=some (.slice none 0 0)
 r2:wr.cell? ⟨w.heap.size+1,2,none⟩=some (.slice none 0 0)
 l0:wr.cell? ⟨Bl,0,none⟩=some (.string a)
 l1:wr.cell? ⟨Bl,1,none⟩=some v
 l2:wr.cell? ⟨Bl,2,none⟩=some sl
 map:dT M kv wr
 row:fp wr Bs bs
 blt:Bl<wr.heap.size
 slt:Bs<wr.heap.size
 rf:∀ j,wr.frozen? ⟨w.heap.size+1,j,none⟩=false
structure LayB(n M Bl Bs:Nat):Prop where
 map:n+2=M
 lay:M<Bl
 row:M<Bs
 ne:Bl≠Bs
theorem LayK.keep{w:World}{M Bl Bs:Nat}{a:ByteArray}{v sl:Value}{kv:List (List UInt8×Value)}{wr wx:World}{bs:List (List UInt8)}(h:LayK w M Bl Bs a v sl kv wr bs)(hB:LayB w.heap.size M Bl Bs)(hb:Below wr.heap.size wr wx):LayK w M Bl Bs a v sl kv wx bs:=by
 have h1:=hB.map;have h2:=hB.lay;have h3:=h.blt;have h4:=h.slt;have h5:=h.map.lt;have al:=hb.size;exact⟨h.below.trans (hb.mono h.below.size),(hb.cell (by simp <;> omega)).trans h.b0,(hb.cell (by simp <;> omega)).trans h.b1,(hb.cell (by simp <;> omega)).trans h.r0,(hb.cell (by simp <;> omega)).trans h.r1,(hb.cell (by simp <;> omega)).trans h.r2,
  (hb.cell (by simp <;> omega)).trans h.l0,(hb.cell (by simp <;> omega)).trans h.l1,(hb.cell (by simp <;> omega)).trans h.l2,h.map.keep hb h5,h.row.keep hb h4,by omega,by omega,λj=>(hb.frozen (by simp <;> omega)).trans (h.rf j)⟩
theorem dT.setCell{r:Nat}{kvs:List (List UInt8×Value)}{w:World}(h:dT r kvs w){p:Addr}(hp:p.block≠r)(u:Value):dT r kvs (w.setCell p u):=by
 obtain⟨es,c,h1,h2⟩:=h;exact⟨es,c,(wQ _ _ _ _ (λe=>hp e.symm)).trans h1,h2⟩
theorem LayK.store{w:World}{M Bl Bs:Nat}{a:ByteArray}{v sl:Value}{kv:List (List UInt8×Value)}{wr:World}{bs:List (List UInt8)}(h:LayK w M Bl Bs a v sl kv wr bs)(hB:LayB w.heap.size M Bl Bs){k:Nat}(hk:k<bs.length)(s:ByteArray)(hs:s.size<=140737488355328):LayK w M Bl Bs a v sl kv (wr.setCell ⟨Bs,k,none⟩ (.string s)) (bs.set k s.data.toList):=by
 have h1:=hB.map;have h2:=hB.lay;have h3:=hB.row;have h4:=hB.ne;exact⟨h.below.setCell (by simp <;> omega) _,(xQ _ _ _ _ (by simp <;> omega)).trans h.b0,(xQ _ _ _ _ (by simp <;> omega)).trans h.b1,(xQ _ _ _ _ (by simp <;> omega)).trans h.r0,(xQ _ _ _ _ (by simp <;> omega)).trans h.r1,(xQ _ _ _ _ (by simp <;> omega)).trans h.r2,
  (xQ _ _ _ _ (by simp <;> omega)).trans h.l0,(xQ _ _ _ _ (by simp <;> omega)).trans h.l1,(xQ _ _ _ _ (by simp <;> omega)).trans h.l2,h.map.setCell (by simp <;> omega) _,h.row.store hk s hs,by simpa using h.blt,by simpa using h.slt,λj=>(World.frozen?_setCell _ _ _ _).trans (h.rf j)⟩
def Mb(w:World)(M Bl Bs:Nat)(a:ByteArray)(v sl:Value)(kv:List (List UInt8×Value))(B:List (List UInt8))(C:List UInt8->Bool)(l:List Np.Signed)(vc i:Value)(wr:World):Prop:=
 ∃ (k:Nat) (sc:ByteArray),k<=l.length/\i = .int .i64 k/\vc = .string sc/\sc.size<=140737488355328/\Hid (LayK w M Bl Bs a v sl kv wr (B.take k++List.replicate (l.length - k) []))/\Hid (sc.data.toList = []\/Np.aG sc.data.toList=true)/\Hid (B.drop k=Np.oy C sc.data.toList (l.drop k))
def LayA(M:Nat)(w1:World)(a:List UInt8)(l:List Np.Signed)(i:Value)(wr:World):Prop:=
 ∃ k:Nat,k<=l.length/\i = .int .i64 k/\Hid (Below M w1 wr)/\Hid (dT M (gI a (l.take k)) wr)
theorem Zq(a:ByteArray)(v:Value)(l:List Np.Signed)(bw:l.length<=20000)(hv:∀ x∈l,Np.aG x.set.name=true)(hs:Np.ve l)(w:World)(hd:SlR cV 5 w w.heap.size v l) :
 Calls prog 200 #[.agg #[.string a,v]] w λe w'=>(∃ bv,e = .returned (.agg #[.string a,v,bv])/\SlR RTx 1 w' w'.heap.size bv (Np.ej ⟨a.data.toList,l⟩))/\Below w.heap.size w w':=by
 obtain⟨B,DD⟩:=aJZ (Np.ej ⟨a.data.toList,l⟩);rw[DD];have dl:=jq DD;have eK:Hid (B.length=l.length):=jq (by rw[<-DD];exact Np.tg _);clear DD;have HV:=jq hv;have HS:=jq hs;have HD:=jq hd;obtain⟨A,c,rfl,be,bC⟩:=aj hd;clear hv hs hd;have vS:∀ (w:World),(Instr.makeMap 111 none).run prog w = .ok (.map (some w.heap.size)) (w.alloc (.map #[] 0)):=λw=>by
  simp[Instr.makeMap,Result.andThen]
 have HW:Hid (∀ o o' o'',Below w.heap.size w (((w.alloc o).alloc o').alloc o'')):=jq (λo o' o''=>(((vQ _ w).alloc (bQ _) _).alloc (by simp) _).alloc (by simp;omega) _);go_enter func200,ntmps200;go_wp2_with fail;obtain⟨w1,ai⟩:=aJZ (((w.alloc (.cells #[.string a,.slice A l.length c] 263)).alloc (.cells #[.string ⟨#[]⟩,.slice none 0 0,.slice none 0 0] 265)).alloc (.map #[] 0));have c0:w1.cell? ⟨w.heap.size,0,none⟩=some (.string a):=by rw[<-ai];simp[go_sem]
 have c1:w1.cell? ⟨w.heap.size,1,none⟩=some (.slice A l.length c):=by rw[<-ai];simp[go_sem]
 have e0:w1.cell? ⟨w.heap.size+1,0,none⟩=some (.string ⟨#[]⟩):=by rw[<-ai];simp[go_sem]
 have e1:w1.cell? ⟨w.heap.size+1,1,none⟩=some (.slice none 0 0):=by rw[<-ai];simp[go_sem]
 have e2:w1.cell? ⟨w.heap.size+1,2,none⟩=some (.slice none 0 0):=by rw[<-ai];simp[go_sem]
 have cI:w1.heap.size=w.heap.size+3:=by rw[<-ai];simp
 have Ln:Hid (dT (w.heap.size+1+1) [] w1):=jq (by
  have:=dT.made ((w.alloc (.cells #[.string a,.slice A l.length c] 263)).alloc (.cells #[.string ⟨#[]⟩,.slice none 0 0,.slice none 0 0] 265))
  rw[<-ai];simpa using this)
 have am:Hid (Below w.heap.size w w1):=jq (by rw[<-ai];exact HW.out _ _ _);have SD:Hid (∀ j,w1.frozen? ⟨w.heap.size+1,j,none⟩=false):=jq (λj=>by rw[<-ai];simp[go_sem]);have HC:=jq (And.intro c0 (And.intro c1 (And.intro e0 (And.intro e1 e2))));rw[ai];clear ai c0 c1 e0 e1 e2;obtain⟨M,hM⟩:=aJZ (w.heap.size+1+1);rw[hM] at Ln |-;go_loopw [18] (λi wr=>LayA M w1 a.data.toList l i wr) (λi _=>l.length - (intOf i).toNat)
 case atStart=>exact⟨0,jQ _,rfl,jq (vQ _ _),Ln⟩
 case round=>
  obtain⟨k,hk,rfl,HB,HM⟩:=hrel;have al:=HB.out.size;obtain⟨c0,c1,e0,e1,e2⟩:=HC.out;have d0:wr.cell? ⟨w.heap.size,0,none⟩=some (.string a):=by rw[HB.out.cell (by simp;omega)];exact c0
  have d1:wr.cell? ⟨w.heap.size,1,none⟩=some (.slice A l.length c):=by rw[HB.out.cell (by simp;omega)];exact c1
  have qw:=HM.out.lt;have bR:w.heap.size<wr.heap.size:=by omega
  have aD:Hid (Below w.heap.size w wr):=aIX am HB.out;have SJ:Hid (∀ j,wr.frozen? ⟨w.heap.size+1,j,none⟩=false):=jq (λj=>(HB.out.frozen (p:=⟨w.heap.size+1,j,none⟩) (by dsimp only;omega)).trans (SD.out j));have sM:Hid (wr.cell? ⟨w.heap.size+1,0,none⟩=some (.string ⟨#[]⟩)/\wr.cell? ⟨w.heap.size+1,1,none⟩=some (.slice none 0 0)/\wr.cell? ⟨w.heap.size+1,2,none⟩=some (.slice none 0 0)):=jq ⟨(HB.out.cell (by dsimp only;omega)).trans e0,(HB.out.cell (by dsimp only;omega)).trans e1,(HB.out.cell (by dsimp only;omega)).trans e2⟩;clear c0 c1 e0 e1 e2;by_cases aa:k<l.length
  ·have ab:=aQ aa;obtain⟨b,o,c',sn,dv,sv,hA,bj,_,ay,cC,aT,aR,f0,f1,f2,f3,f4⟩:=fE (HD.out.keep bU aD.out) ab
   cases hA
   have ht:l.take (k+1)=l.take k ++ [l[k]]:=fQ aa;have Ts:Hid (l[k].set.type=2->(gI a.data.toList (l.take k)).lookup sn.data.toList=none):=jq (λh2=>by
    refine (Dn _ _ _).2 λy hy h3 he=>?_;obtain⟨j,hj,rfl⟩:=nQ.1 hy;rw[List.length_take] at hj;have h4:=J5 HS.out (aQ (show j<l.length by omega)) ab (by omega);rw[List.getElem_take] at h3 he;have h5:Np.eG l[j].set=Np.eG l[k].set:=by unfold Np.eG;rw[h3,h2,he,ay]
    rw[h5,Np.yU.self] at h4;omega)
   have HT:Hid (∀ kv,(if l[k].set.type=2/\l[k].set.name≠a.data.toList then gI a.data.toList (l.take k) ++ [(l[k].set.name,.bool true)] else gI a.data.toList (l.take k))=kv->gI a.data.toList (l.take (k+1))=kv):=jq (λkv h=>by rw[ht,Vp];exact h);generalize hx:l[k]=x at *;clear hx ht;obtain⟨Ad,cd,rfl,_,_⟩:=aj aT;obtain⟨As,cs,rfl,_,_⟩:=aj aR;have aW:=jq ay;have eb:Hid (∀ o,Below wr.heap.size wr (wr.alloc o)):=jq (λo=>(vQ _ _).alloc (bQ _) _);have bi:Hid (∀ o,Below M w1 (wr.alloc o)):=jq (λo=>HB.out.alloc (by omega) _);clear ab ay aT aR;by_cases h2:x.set.type=2
   ·have ac:(x.set.type == 2)=true:=by simpa using h2
    by_cases hn:x.set.name=a.data.toList
    ·have jA:(!sn.toList == a.toList)=false:=by rw[dQ,dQ,aW.out,hn];simp
     have lh:=jq (HT.out _ (Qc λh=>h.2 hn));clear h2 hn;go_wp2_with fail;go_roundw
     case rel=>exact⟨k+1,by omega,by go_num,jq (bi.out _),jq (by rw[lh.out];exact HM.out.keep (eb.out _) qw)⟩
     case measure=>simp[intOf] <;> omega
    ·have jA:(!sn.toList == a.toList)=true:=by rw[dQ,dQ,aW.out];simpa using hn
     have lh:=jq (HT.out _ (Qb ⟨h2,hn⟩));have mp:=jq (Ts.out h2);clear h2 hn;go_wp2_with (at_mapUpdate;refine RF _ rfl _ _ _ 111 rfl 9 4 underlying111 underlying9 M (gI a.data.toList (l.take k)) rfl (HM.out.keep (eb.out _) qw) sn.data.toList rfl (.bool true) rfl mp.out ?_;intro w5 mK l3;have H5:=jq (And.intro mK l3);clear mK l3);go_roundw
     case rel=>exact⟨k+1,by omega,by go_num,jq ((bi.out _).trans (H5.out.2.below (bQ _))),jq (by rw[lh.out,<-aW.out];exact H5.out.1)⟩
     case measure=>simp[intOf] <;> omega
   ·have ac:(x.set.type == 2)=false:=by simpa using h2
    have lh:=jq (HT.out _ (Qc λh=>h2 h.1));clear h2;go_wp2_with fail;go_roundw
    case rel=>exact⟨k+1,by omega,by go_num,jq (bi.out _),jq (by rw[lh.out];exact HM.out.keep (eb.out _) qw)⟩
    case measure=>simp[intOf] <;> omega
  ·have mI:k=l.length:=by omega
   subst mI;rw[List.take_length] at HM;go_wp2_with fail;have gK:=JF l.length bw;have HZ:Hid (∀ j,j<l.length->(madeCells #[Value.string ⟨#[]⟩] l.length)[j]?=some (.string ⟨#[]⟩)):=jq (λj hj=>JE _ _ hj);generalize madeCells #[Value.string ⟨#[]⟩] l.length=Z at gK HZ;have CK:=jq (And.intro d0 d1);have CY:Hid (∀ (Bl Bs:Nat) (w5:World),Below wr.heap.size wr w5->M<Bl->M<Bs->Bl≠Bs->Bl<w5.heap.size->Bs<w5.heap.size->w5.cell? ⟨Bl,0,none⟩=some (.string a)->w5.cell? ⟨Bl,1,none⟩=some (.slice A l.length c)->w5.cell? ⟨Bl,2,none⟩=some (.slice (some ⟨Bs,0,none⟩) l.length l.length)->(∀ j,j<l.length->w5.cell? ⟨Bs,j,none⟩=some (.string ⟨#[]⟩))->(∀ j,w5.frozen? ⟨Bs,j,none⟩=false)->
    LayB w.heap.size M Bl Bs/\LayK w M Bl Bs a (.slice A l.length c) (.slice (some ⟨Bs,0,none⟩) l.length l.length) (gI a.data.toList l) w5 (List.replicate l.length [])):=jq (λBl Bs w5 hb h1 h2 h3 h4 h5 k0 k1 k2 hz vJ=>by
    refine⟨⟨by omega,h1,h2,h3⟩,aD.out.trans (hb.aKZ),(hb.cell (by dsimp only;omega)).trans CK.out.1,(hb.cell (by dsimp only;omega)).trans CK.out.2,(hb.cell (by dsimp only;omega)).trans sM.out.1,(hb.cell (by dsimp only;omega)).trans sM.out.2.1,(hb.cell (by dsimp only;omega)).trans sM.out.2.2,k0,k1,k2,HM.out.keep hb qw,λj x hx=>?_,h4,h5,λj=>(hb.frozen (by dsimp only;omega)).trans (SJ.out j)⟩;rw[List.getElem?_replicate] at hx;split at hx
    ·rename_i hj
     cases hx
     exact⟨⟨#[]⟩,rfl,by decide,hz j hj,vJ j⟩
    ·cases hx)
   go_region
   ·obtain⟨w5,aJ⟩:=aJZ (((wr.alloc (.cells Z 9)).alloc (.cells #[.string a,.slice A l.length c,.slice (some ⟨wr.heap.size,0,none⟩) l.length l.length] 265)).drew);have av:Below wr.heap.size wr w5:=by rw[<-aJ];exact (((vQ _ _).alloc (bQ _) _).alloc (by simp) _).drew
    have hp:=CY.out (wr.heap.size+1) wr.heap.size w5 av (by omega) (by omega) (by omega) (by rw[<-aJ];simp) (by rw[<-aJ];simp;omega) (by rw[<-aJ];simp[go_sem]) (by rw[<-aJ];simp[go_sem]) (by rw[<-aJ];simp[go_sem]) (λj hj=>by rw[<-aJ];simp[go_sem];exact HZ.out j hj) (λj=>by rw[<-aJ];simp[go_sem]);rw[aJ];obtain⟨Au,Aw⟩:=hp;have jP:=jq Au;have ku:=jq Aw;clear aJ av Au Aw gK CY HZ sM CK HB aD d0 d1;generalize wr.heap.size+1=X1 at *;generalize wr.heap.size=X0 at *;have c50:=ku.out.b0;have c51:=ku.out.b1;go_wp2_with fail;clear c50 c51;go_loopw [7,51] (λvc i wr=>Mb w M X1 X0 a (.slice A l.length c) (.slice (some ⟨X0,0,none⟩) l.length l.length) (gI a.data.toList l) B (Np.cS ⟨a.data.toList,l⟩) l vc i wr) (λ_ i _=>l.length - (intOf i).toNat)
    case atStart=>exact⟨0,⟨#[]⟩,jQ _,rfl,rfl,by decide,jq ku.out,jq (.inl rfl),jq (by rw[<-dl.out];rfl)⟩
    case round=>
     obtain⟨k,sc,hk,rfl,rfl,gu,HK,uV,HE⟩:=hrel;have mH:=HK.out.l2;have bB:=HK.out.blt;have pD:=HK.out.slt;have qw:=HK.out.map.lt;have l4:=HK.out.below.size;by_cases aa:k<l.length
     ·have ab:=aQ aa;obtain⟨b,o,c',sn,dv,sv,hA,bj,_,ay,cC,aT,aR,f0,f1,f2,f3,f4⟩:=fE (HD.out.keep bU HK.out.below) ab
      cases hA
      have iu:Hid (Np.aG sn.data.toList=true):=jq (by rw[ay];exact HV.out _ (List.getElem_mem aa));have ck:Hid (B[k]?=some (Np.dM (Np.cS ⟨a.data.toList,l⟩) sc.data.toList sn.data.toList)/\B.drop (k+1)=Np.oy (Np.cS ⟨a.data.toList,l⟩) (Np.dM (Np.cS ⟨a.data.toList,l⟩) sc.data.toList sn.data.toList) (l.drop (k+1))):=jq (by
       have h1:=HE.out;rw[sQ aa,Np.oy,<-ay] at h1;refine⟨?_,?_⟩
       ·have:=List.getElem?_drop (xs:=B) (i:=k) (j:=0)
        rw[h1,Nat.add_zero] at this;exact this.symm
       ·have:=Qd (List.drop 1) h1
        rw[List.drop_drop] at this;simpa using this)
      obtain⟨s0,_,_,iW,oG⟩:=HK.out.row k [] (by
       rw[oQ (by rw[List.length_take];omega),List.length_take,eK.out,show k - min k l.length=0 by omega,List.getElem?_replicate,Qb (by omega)])
      have jb:Hid (∀ (wx:World) (s:ByteArray),Below wr.heap.size wr wx->s.size<=140737488355328->s.data.toList=Np.dM (Np.cS ⟨a.data.toList,l⟩) sc.data.toList sn.data.toList->LayK w M X1 X0 a (.slice (some ⟨b,o,none⟩) l.length c) (.slice (some ⟨X0,0,none⟩) l.length l.length) (gI a.data.toList l) (wx.setCell ⟨X0,k,none⟩ (.string s)) (B.take (k+1)++List.replicate (l.length - (k+1)) [])):=jq (λwx s hb al hs=>by
       rw[<-QH eK.out ck.out.1,<-hs];exact (HK.out.keep jP.out hb).store jP.out (by rw[List.length_append,List.length_take,List.length_replicate,eK.out];omega) s al)
      have Gd:=jq HK.out.map;have eb:Hid (∀ o,Below wr.heap.size wr (wr.alloc o)):=jq (λo=>(vQ _ _).alloc (bQ _) _);generalize hx:l[k]=x at *;clear hx ab;obtain⟨Ad,cd,rfl,_,_⟩:=aj aT;obtain⟨As,cs,rfl,_,_⟩:=aj aR;clear ay aT aR;have bF:(0:Int)<=(k:Int):=by omega
      have bL:(k:Int)<(l.length:Int):=by omega
      obtain⟨cb,ib⟩:=aJZ (Np.cS ⟨a.data.toList,l⟩ sn.data.toList);have jN:=jq ib;have lM:Hid (((gI a.data.toList l).lookup sn.data.toList).getD (.bool false) = .bool cb):=jq (by rw[<-ib];exact (Dn _ _ l).1);clear ib;have uJ:Hid (∀ wx,Below wr.heap.size wr wx->Sem.run prog (Instr.lookup 111 (.map (some M)) (.string sn) false) wx = .ok (.bool cb) wx):=jq (λwx hb=>by
       have:=JZ (P:=prog) wx 111 9 4 underlying111 underlying9 M (gI a.data.toList l) (Gd.out.keep hb qw) sn.data.toList (.bool false) (by kernel_rfl)
       rw[lM.out] at this;exact this)
      by_cases hce:sc.data.toList = []
      ·obtain rfl:sc=⟨#[]⟩:=mT hce;have dS:Hid (cb=true->sn.data.toList=Np.dM (Np.cS ⟨a.data.toList,l⟩) [] sn.data.toList):=jq (λh=>by
        unfold Np.dM;rw[jN.out,h];simp)
       have g8:Hid (cb=false->[]=Np.dM (Np.cS ⟨a.data.toList,l⟩) [] sn.data.toList):=jq (λh=>by
        unfold Np.dM;rw[jN.out,h];simp)
       clear hce
       cases cb with
       | true=>
        have iT:∀ o,Sem.run prog (Instr.lookup 111 (.map (some M)) (.string sn) false) (wr.alloc o) = .ok (.bool true) (wr.alloc o):=λo=>uJ.out _ (eb.out o);go_wp2_with fail;go_roundw
        case rel=>exact⟨k+1,sn,by omega,by go_num,rfl,cC,jq ((jb.out wr sn (vQ _ _) cC (dS.out (by simp))).keep jP.out ((vQ _ _).alloc (bQ _) _)),jq (.inr iu.out),jq (by rw[dS.out (by simp)];exact ck.out.2)⟩
        case measure=>simp[intOf] <;> omega
       | false=>
        have iT:∀ o,Sem.run prog (Instr.lookup 111 (.map (some M)) (.string sn) false) (wr.alloc o) = .ok (.bool false) (wr.alloc o):=λo=>uJ.out _ (eb.out o);go_wp2_with fail;go_roundw
        case rel=>exact⟨k+1,⟨#[]⟩,by omega,by go_num,rfl,by decide,jq ((jb.out wr ⟨#[]⟩ (vQ _ _) (by decide) (g8.out (by simp))).keep jP.out ((vQ _ _).alloc (bQ _) _)),jq (.inl rfl),jq (by rw[show (⟨#[]⟩:ByteArray).data.toList = [] from rfl,g8.out (by simp)];exact ck.out.2)⟩
        case measure=>simp[intOf] <;> omega
      ·have XS:(!sc.toList == [])=true:=by rw[dQ];simpa using hce
       have BB:(sc.toList == [])=false:=by rw[dQ];simpa using hce
       have ky:Hid (Np.aG sc.data.toList=true):=jq (uV.out.resolve_left hce);have lK:=jq hce;have WA:M<wr.heap.size:=qw;clear hce;go_wp2_with fail;refine (Kh sn sc cC gu _ iu.out ky.out).mono ?_;rintro e w2 ⟨rfl,ac⟩;have ah:=jq ((eb.out _).trans (ac.mono (by simp)));have dJ:w2.cell? ⟨X1,2,none⟩=some (.slice (some ⟨X0,0,none⟩) l.length l.length):=aIZ ah.out mH;have cJ:w2.cell? ⟨X0,k,none⟩=some (.string s0):=aIZ ah.out iW;have aN:=ah.out.size;have D4:w2.frozen? ⟨X0,k,none⟩=false:=(ah.out.frozen (by dsimp only;omega)).trans oG;clear ac mH iW oG
       cases fT:Np.bq sn.data.toList sc.data.toList with
       | true=>
        have dS:Hid (sc.data.toList=Np.dM (Np.cS ⟨a.data.toList,l⟩) sc.data.toList sn.data.toList):=jq (by
         unfold Np.dM;simp[lK.out,fT])
        clear fT;go_wp2_with fail;go_roundw
        case rel=>exact⟨k+1,sc,by omega,by go_num,rfl,gu,jq (jb.out _ sc ah.out gu dS.out),jq (.inr ky.out),jq (by rw[dS.out];exact ck.out.2)⟩
        case measure=>simp[intOf] <;> omega
       | false=>
        have dS:Hid (cb=true->sn.data.toList=Np.dM (Np.cS ⟨a.data.toList,l⟩) sc.data.toList sn.data.toList):=jq (λh=>by
         unfold Np.dM;rw[jN.out,h];simp[fT,lK.out])
        have g8:Hid (cb=false->[]=Np.dM (Np.cS ⟨a.data.toList,l⟩) sc.data.toList sn.data.toList):=jq (λh=>by
         unfold Np.dM;rw[jN.out,h];simp[fT,lK.out])
        clear fT;have iT:=uJ.out w2 ah.out
        cases cb with
        | true=>
         go_wp2_with fail;go_roundw
         case rel=>exact⟨k+1,sn,by omega,by go_num,rfl,cC,jq (jb.out _ sn ah.out cC (dS.out (by simp))),jq (.inr iu.out),jq (by rw[dS.out (by simp)];exact ck.out.2)⟩
         case measure=>simp[intOf] <;> omega
        | false=>
         go_wp2_with fail;go_roundw
         case rel=>exact⟨k+1,⟨#[]⟩,by omega,by go_num,rfl,by decide,jq (jb.out _ ⟨#[]⟩ ah.out (by decide) (g8.out (by simp))),jq (.inl rfl),jq (by rw[show (⟨#[]⟩:ByteArray).data.toList = [] from rfl,g8.out (by simp)];exact ck.out.2)⟩
         case measure=>simp[intOf] <;> omega
     ·have Bu:k=l.length:=by omega
      have mi:Hid (B.take k++List.replicate (l.length - k) []=B):=jq (by rw[Bu,Nat.sub_self,List.replicate_zero,List.append_nil,kQ (by rw[eK.out];exact bQ _)]);clear Bu;have g0:=HK.out.l0;have g1:=HK.out.l1;have r0:=HK.out.r0;have r1:=HK.out.r1;have r2:=HK.out.r2;have rf0:=HK.out.rf 0;have rf1:=HK.out.rf 1;have rf2:=HK.out.rf 2;go_wp2_with fail;obtain⟨w6,ef⟩:=aJZ (((wr.setCell ⟨w.heap.size+1,0,none⟩ (.string a)).setCell ⟨w.heap.size+1,1,none⟩ (.slice A l.length c)).setCell ⟨w.heap.size+1,2,none⟩ (.slice (some ⟨X0,0,none⟩) l.length l.length));have q0:w6.cell? ⟨w.heap.size+1,0,none⟩=some (.string a):=by rw[<-ef];simp[go_sem,r0]
      have q1:w6.cell? ⟨w.heap.size+1,1,none⟩=some (.slice A l.length c):=by rw[<-ef];simp[go_sem,r1]
      have q2:w6.cell? ⟨w.heap.size+1,2,none⟩=some (.slice (some ⟨X0,0,none⟩) l.length l.length):=by rw[<-ef];simp[go_sem,r2]
      have h1:=jP.out.map;have h2:=jP.out.row;have dj:Hid (Below w.heap.size w w6):=jq (by rw[<-ef];exact ((HK.out.below.setCell (by simp) _).setCell (by simp) _).setCell (by simp) _);have mu:Hid (SlR RTx 1 w6 w6.heap.size (.slice (some ⟨X0,0,none⟩) l.length l.length) B):=jq (by
       have h3:=HK.out.row;rw[mi.out] at h3;have h4:=((h3.other (p:=⟨w.heap.size+1,0,none⟩) (by simp;omega) (.string a)).other (p:=⟨w.heap.size+1,1,none⟩) (by simp;omega) (.slice A l.length c)).other (p:=⟨w.heap.size+1,2,none⟩) (by simp;omega) (.slice (some ⟨X0,0,none⟩) l.length l.length);rw[ef] at h4;have h5:=h4.slr (by rw[<-ef];simp;omega) (by rw[eK.out];omega);rw[eK.out] at h5;exact h5)
      rw[ef];clear ef r0 r1 r2 rf0 rf1 rf2 g0 g1 mH;refine bodyPost_ret (v:=.agg #[.string a,.slice A l.length c,.slice (some ⟨X0,0,none⟩) l.length l.length]) ?_ rfl ⟨⟨_,rfl,mu.out⟩,dj.out⟩;simp[results,results200,go_sem,q0,q1,q2]
   ·obtain⟨w5,aJ⟩:=aJZ (((wr.alloc (.cells #[.string a,.slice A l.length c,.slice (some ⟨wr.heap.size+1,0,none⟩) l.length l.length] 265)).alloc (.cells Z 9)).drew);have av:Below wr.heap.size wr w5:=by rw[<-aJ];exact (((vQ _ _).alloc (bQ _) _).alloc (by simp) _).drew
    have hp:=CY.out wr.heap.size (wr.heap.size+1) w5 av (by omega) (by omega) (by omega) (by rw[<-aJ];simp;omega) (by rw[<-aJ];simp) (by rw[<-aJ];simp[go_sem]) (by rw[<-aJ];simp[go_sem]) (by rw[<-aJ];simp[go_sem]) (λj hj=>by rw[<-aJ];simp[go_sem];exact HZ.out j hj) (λj=>by rw[<-aJ];simp[go_sem]);rw[aJ];obtain⟨Au,Aw⟩:=hp;have jP:=jq Au;have ku:=jq Aw;clear aJ av Au Aw gK CY HZ sM CK HB aD d0 d1;generalize wr.heap.size+1=X0 at *;generalize wr.heap.size=X1 at *;have c50:=ku.out.b0;have c51:=ku.out.b1;go_wp2_with fail;clear c50 c51;go_loopw [7,51] (λvc i wr=>Mb w M X1 X0 a (.slice A l.length c) (.slice (some ⟨X0,0,none⟩) l.length l.length) (gI a.data.toList l) B (Np.cS ⟨a.data.toList,l⟩) l vc i wr) (λ_ i _=>l.length - (intOf i).toNat)
    case atStart=>exact⟨0,⟨#[]⟩,jQ _,rfl,rfl,by decide,jq ku.out,jq (.inl rfl),jq (by rw[<-dl.out];rfl)⟩
    case round=>
     obtain⟨k,sc,hk,rfl,rfl,gu,HK,uV,HE⟩:=hrel;have mH:=HK.out.l2;have bB:=HK.out.blt;have pD:=HK.out.slt;have qw:=HK.out.map.lt;have l4:=HK.out.below.size;by_cases aa:k<l.length
     ·have ab:=aQ aa;obtain⟨b,o,c',sn,dv,sv,hA,bj,_,ay,cC,aT,aR,f0,f1,f2,f3,f4⟩:=fE (HD.out.keep bU HK.out.below) ab
      cases hA
      have iu:Hid (Np.aG sn.data.toList=true):=jq (by rw[ay];exact HV.out _ (List.getElem_mem aa));have ck:Hid (B[k]?=some (Np.dM (Np.cS ⟨a.data.toList,l⟩) sc.data.toList sn.data.toList)/\B.drop (k+1)=Np.oy (Np.cS ⟨a.data.toList,l⟩) (Np.dM (Np.cS ⟨a.data.toList,l⟩) sc.data.toList sn.data.toList) (l.drop (k+1))):=jq (by
       have h1:=HE.out;rw[sQ aa,Np.oy,<-ay] at h1;refine⟨?_,?_⟩
       ·have:=List.getElem?_drop (xs:=B) (i:=k) (j:=0)
        rw[h1,Nat.add_zero] at this;exact this.symm
       ·have:=Qd (List.drop 1) h1
        rw[List.drop_drop] at this;simpa using this)
      obtain⟨s0,_,_,iW,oG⟩:=HK.out.row k [] (by
       rw[oQ (by rw[List.length_take];omega),List.length_take,eK.out,show k - min k l.length=0 by omega,List.getElem?_replicate,Qb (by omega)])
      have jb:Hid (∀ (wx:World) (s:ByteArray),Below wr.heap.size wr wx->s.size<=140737488355328->s.data.toList=Np.dM (Np.cS ⟨a.data.toList,l⟩) sc.data.toList sn.data.toList->LayK w M X1 X0 a (.slice (some ⟨b,o,none⟩) l.length c) (.slice (some ⟨X0,0,none⟩) l.length l.length) (gI a.data.toList l) (wx.setCell ⟨X0,k,none⟩ (.string s)) (B.take (k+1)++List.replicate (l.length - (k+1)) [])):=jq (λwx s hb al hs=>by
       rw[<-QH eK.out ck.out.1,<-hs];exact (HK.out.keep jP.out hb).store jP.out (by rw[List.length_append,List.length_take,List.length_replicate,eK.out];omega) s al)
      have Gd:=jq HK.out.map;have eb:Hid (∀ o,Below wr.heap.size wr (wr.alloc o)):=jq (λo=>(vQ _ _).alloc (bQ _) _);generalize hx:l[k]=x at *;clear hx ab;obtain⟨Ad,cd,rfl,_,_⟩:=aj aT;obtain⟨As,cs,rfl,_,_⟩:=aj aR;clear ay aT aR;have bF:(0:Int)<=(k:Int):=by omega
      have bL:(k:Int)<(l.length:Int):=by omega
      obtain⟨cb,ib⟩:=aJZ (Np.cS ⟨a.data.toList,l⟩ sn.data.toList);have jN:=jq ib;have lM:Hid (((gI a.data.toList l).lookup sn.data.toList).getD (.bool false) = .bool cb):=jq (by rw[<-ib];exact (Dn _ _ l).1);clear ib;have uJ:Hid (∀ wx,Below wr.heap.size wr wx->Sem.run prog (Instr.lookup 111 (.map (some M)) (.string sn) false) wx = .ok (.bool cb) wx):=jq (λwx hb=>by
       have:=JZ (P:=prog) wx 111 9 4 underlying111 underlying9 M (gI a.data.toList l) (Gd.out.keep hb qw) sn.data.toList (.bool false) (by kernel_rfl)
       rw[lM.out] at this;exact this)
      by_cases hce:sc.data.toList = []
      ·obtain rfl:sc=⟨#[]⟩:=mT hce;have dS:Hid (cb=true->sn.data.toList=Np.dM (Np.cS ⟨a.data.toList,l⟩) [] sn.data.toList):=jq (λh=>by
        unfold Np.dM;rw[jN.out,h];simp)
       have g8:Hid (cb=false->[]=Np.dM (Np.cS ⟨a.data.toList,l⟩) [] sn.data.toList):=jq (λh=>by
        unfold Np.dM;rw[jN.out,h];simp)
       clear hce
       cases cb with
       | true=>
        have iT:∀ o,Sem.run prog (Instr.lookup 111 (.map (some M)) (.string sn) false) (wr.alloc o) = .ok (.bool true) (wr.alloc o):=λo=>uJ.out _ (eb.out o);go_wp2_with fail;go_roundw
        case rel=>exact⟨k+1,sn,by omega,by go_num,rfl,cC,jq ((jb.out wr sn (vQ _ _) cC (dS.out (by simp))).keep jP.out ((vQ _ _).alloc (bQ _) _)),jq (.inr iu.out),jq (by rw[dS.out (by simp)];exact ck.out.2)⟩
        case measure=>simp[intOf] <;> omega
       | false=>
        have iT:∀ o,Sem.run prog (Instr.lookup 111 (.map (some M)) (.string sn) false) (wr.alloc o) = .ok (.bool false) (wr.alloc o):=λo=>uJ.out _ (eb.out o);go_wp2_with fail;go_roundw
        case rel=>exact⟨k+1,⟨#[]⟩,by omega,by go_num,rfl,by decide,jq ((jb.out wr ⟨#[]⟩ (vQ _ _) (by decide) (g8.out (by simp))).keep jP.out ((vQ _ _).alloc (bQ _) _)),jq (.inl rfl),jq (by rw[show (⟨#[]⟩:ByteArray).data.toList = [] from rfl,g8.out (by simp)];exact ck.out.2)⟩
        case measure=>simp[intOf] <;> omega
      ·have XS:(!sc.toList == [])=true:=by rw[dQ];simpa using hce
       have BB:(sc.toList == [])=false:=by rw[dQ];simpa using hce
       have ky:Hid (Np.aG sc.data.toList=true):=jq (uV.out.resolve_left hce);have lK:=jq hce;have WA:M<wr.heap.size:=qw;clear hce;go_wp2_with fail;refine (Kh sn sc cC gu _ iu.out ky.out).mono ?_;rintro e w2 ⟨rfl,ac⟩;have ah:=jq ((eb.out _).trans (ac.mono (by simp)));have dJ:w2.cell? ⟨X1,2,none⟩=some (.slice (some ⟨X0,0,none⟩) l.length l.length):=aIZ ah.out mH;have cJ:w2.cell? ⟨X0,k,none⟩=some (.string s0):=aIZ ah.out iW;have aN:=ah.out.size;have D4:w2.frozen? ⟨X0,k,none⟩=false:=(ah.out.frozen (by dsimp only;omega)).trans oG;clear ac mH iW oG
       cases fT:Np.bq sn.data.toList sc.data.toList with
       | true=>
        have dS:Hid (sc.data.toList=Np.dM (Np.cS ⟨a.data.toList,l⟩) sc.data.toList sn.data.toList):=jq (by
         unfold Np.dM;simp[lK.out,fT])
        clear fT;go_wp2_with fail;go_roundw
        case rel=>exact⟨k+1,sc,by omega,by go_num,rfl,gu,jq (jb.out _ sc ah.out gu dS.out),jq (.inr ky.out),jq (by rw[dS.out];exact ck.out.2)⟩
        case measure=>simp[intOf] <;> omega
       | false=>
        have dS:Hid (cb=true->sn.data.toList=Np.dM (Np.cS ⟨a.data.toList,l⟩) sc.data.toList sn.data.toList):=jq (λh=>by
         unfold Np.dM;rw[jN.out,h];simp[fT,lK.out])
        have g8:Hid (cb=false->[]=Np.dM (Np.cS ⟨a.data.toList,l⟩) sc.data.toList sn.data.toList):=jq (λh=>by
         unfold Np.dM;rw[jN.out,h];simp[fT,lK.out])
        clear fT;have iT:=uJ.out w2 ah.out
        cases cb with
        | true=>
         go_wp2_with fail;go_roundw
         case rel=>exact⟨k+1,sn,by omega,by go_num,rfl,cC,jq (jb.out _ sn ah.out cC (dS.out (by simp))),jq (.inr iu.out),jq (by rw[dS.out (by simp)];exact ck.out.2)⟩
         case measure=>simp[intOf] <;> omega
        | false=>
         go_wp2_with fail;go_roundw
         case rel=>exact⟨k+1,⟨#[]⟩,by omega,by go_num,rfl,by decide,jq (jb.out _ ⟨#[]⟩ ah.out (by decide) (g8.out (by simp))),jq (.inl rfl),jq (by rw[show (⟨#[]⟩:ByteArray).data.toList = [] from rfl,g8.out (by simp)];exact ck.out.2)⟩
         case measure=>simp[intOf] <;> omega
     ·have Bu:k=l.length:=by omega
      have mi:Hid (B.take k++List.replicate (l.length - k) []=B):=jq (by rw[Bu,Nat.sub_self,List.replicate_zero,List.append_nil,kQ (by rw[eK.out];exact bQ _)]);clear Bu;have g0:=HK.out.l0;have g1:=HK.out.l1;have r0:=HK.out.r0;have r1:=HK.out.r1;have r2:=HK.out.r2;have rf0:=HK.out.rf 0;have rf1:=HK.out.rf 1;have rf2:=HK.out.rf 2;go_wp2_with fail;obtain⟨w6,ef⟩:=aJZ (((wr.setCell ⟨w.heap.size+1,0,none⟩ (.string a)).setCell ⟨w.heap.size+1,1,none⟩ (.slice A l.length c)).setCell ⟨w.heap.size+1,2,none⟩ (.slice (some ⟨X0,0,none⟩) l.length l.length));have q0:w6.cell? ⟨w.heap.size+1,0,none⟩=some (.string a):=by rw[<-ef];simp[go_sem,r0]
      have q1:w6.cell? ⟨w.heap.size+1,1,none⟩=some (.slice A l.length c):=by rw[<-ef];simp[go_sem,r1]
      have q2:w6.cell? ⟨w.heap.size+1,2,none⟩=some (.slice (some ⟨X0,0,none⟩) l.length l.length):=by rw[<-ef];simp[go_sem,r2]
      have h1:=jP.out.map;have h2:=jP.out.row;have dj:Hid (Below w.heap.size w w6):=jq (by rw[<-ef];exact ((HK.out.below.setCell (by simp) _).setCell (by simp) _).setCell (by simp) _);have mu:Hid (SlR RTx 1 w6 w6.heap.size (.slice (some ⟨X0,0,none⟩) l.length l.length) B):=jq (by
       have h3:=HK.out.row;rw[mi.out] at h3;have h4:=((h3.other (p:=⟨w.heap.size+1,0,none⟩) (by simp;omega) (.string a)).other (p:=⟨w.heap.size+1,1,none⟩) (by simp;omega) (.slice A l.length c)).other (p:=⟨w.heap.size+1,2,none⟩) (by simp;omega) (.slice (some ⟨X0,0,none⟩) l.length l.length);rw[ef] at h4;have h5:=h4.slr (by rw[<-ef];simp;omega) (by rw[eK.out];omega);rw[eK.out] at h5;exact h5)
      rw[ef];clear ef r0 r1 r2 rf0 rf1 rf2 g0 g1 mH;refine bodyPost_ret (v:=.agg #[.string a,.slice A l.length c,.slice (some ⟨X0,0,none⟩) l.length l.length]) ?_ rfl ⟨⟨_,rfl,mu.out⟩,dj.out⟩;simp[results,results200,go_sem,q0,q1,q2]
theorem pW{w:World}{B n c:Nat}{A:Option Addr}{xs:List (List UInt8)}(h:SlR RTx 1 w B (.slice A n c) xs){k:Nat}{x:List UInt8}(hx:xs[k]?=some x):∃ (b o:Nat) (s:ByteArray),A=some ⟨b,o,none⟩/\b<B/\s.data.toList=x/\s.size<=140737488355328/\w.cell? ⟨b,o+k,none⟩=some (.string s):=by
 obtain⟨A',c',hv,hc,_,he⟩:=h;simp only[Value.slice.injEq] at hv;obtain⟨rfl,_,_⟩:=hv;obtain⟨b,o,e,rfl,hb,_,hce,s,h1,h2,rfl⟩:=he k x hx;exact⟨b,o,s,rfl,hb,h1,h2,by have:=hce 0 _ rfl;simpa using this⟩
def Np.pZ(l:List Np.Signed)(B:List (List UInt8)):Prop:=∀ (i:Nat) (x:Np.Signed) (b:List UInt8),l[i]?=some x->B[i]?=some b->Np.mb x.set b
def Np.zT(l:List Np.Signed)(B:List (List UInt8)):Prop:=∀ (i:Nat) (x:Np.Signed) (b:List UInt8),l[i]?=some x->B[i]?=some b->b≠[]->x.set.type=2\/x.set.type=1->x.sigs = []
theorem MK{x:Np.DSet}{b:List UInt8}(hb:b = []):Np.mb x b↔x.type≠6:=by
 subst hb;exact⟨λh=>h.1 rfl,λh=>⟨λ_=>h,λh2=>absurd rfl h2,λh2=>absurd rfl h2⟩⟩
theorem ML{x:Np.DSet}{b:List UInt8}(hb:b≠[])(he:b=x.name):Np.mb x b↔(x.type=2\/x.type=6\/x.type=8\/x.type=1):=
 ⟨λh=>h.2.1 hb he,λh=>⟨λh2=>absurd h2 hb,λ_ _=>h,λ_ h2=>absurd he h2⟩⟩
theorem MM{x:Np.DSet}{b:List UInt8}(hb:b≠[])(he:b≠x.name):Np.mb x b↔x.type=1:=
 ⟨λh=>h.2.2 hb he,λh=>⟨λh2=>absurd h2 hb,λ_ h2=>absurd h2 he,λ_ _=>h⟩⟩
theorem Vt(a:ByteArray)(v bv:Value)(l:List Np.Signed)(B:List (List UInt8))(jZ:B.length=l.length)(w:World)(hd:SlR cV 5 w w.heap.size v l)(pC:SlR RTx 1 w w.heap.size bv B) :
 Calls prog 202 #[.agg #[.string a,v,bv]] w (aOJ w.heap.size w (.bool (Np.yes (Np.pZ l B)))):=by
 obtain⟨r,hr⟩:=aJZ (Np.yes (Np.pZ l B));rw[hr];have HR:=jq hr;have eK:=jq jZ;have HD:=jq hd;have pb:=jq pC;obtain⟨A,c,rfl,be,bC⟩:=aj hd;obtain⟨A2,c2,rfl,dV,dJ⟩:=aj pC;rw[jZ] at dV dJ pb |-;clear hr hd pC jZ;have HW:Hid (∀ o,Below w.heap.size w (w.alloc o)):=jq (λo=>(vQ _ w).alloc (bQ _) _);go_enter func202,ntmps202;go_wp2_with fail;obtain⟨w1,ai⟩:=aJZ (w.alloc (.cells #[.string a,.slice A l.length c,.slice A2 l.length c2] 265));have c2':w1.cell? ⟨w.heap.size,2,none⟩=some (.slice A2 l.length c2):=by rw[<-ai];simp[go_sem]
 have cI:w.heap.size<w1.heap.size:=by rw[<-ai];simp
 have am:Hid (Below w.heap.size w w1):=jq (by rw[<-ai];exact HW.out _);rw[ai];clear ai;go_loopw [11] (λi wr=>∃ k:Nat,k<=l.length/\i = .int .i64 k/\Hid (Below w1.heap.size w1 wr)/\Hid (∀ j x b,j<k->l[j]?=some x->B[j]?=some b->Np.mb x.set b)) (λi _=>l.length - (intOf i).toNat)
 case atStart=>exact⟨0,jQ _,rfl,jq (vQ _ _),jq (λj x b hj=>by omega)⟩
 case round=>
  obtain⟨k,hk,rfl,HB,HA⟩:=hrel;have al:=HB.out.size;have aD:=aIX am HB.out;by_cases aa:k<l.length
  ·obtain⟨x,ab⟩:∃ x,l[k]?=some x:=⟨_,aQ aa⟩;obtain⟨bb,dO⟩:∃ bb,B[k]?=some bb:=⟨_,aQ (by rw[eK.out];omega)⟩;obtain⟨b,o,c',sn,dv,sv,hA,bj,_,ay,cC,aT,aR,e0,e1,e2,e3,e4⟩:=fE (HD.out.keep bU aD.out) ab
   cases hA
   obtain⟨b2,o2,sb,rfl,yi,pS,Jb,g0⟩:=pW (pb.out.keep mS aD.out) dO;have HN:Hid (Np.mb x.set bb->∀ j x b,j<k+1->l[j]?=some x->B[j]?=some b->Np.mb x.set b):=jq (λh j x b hj hx hb=>by
    by_cases e:j=k
    ·subst e;rw[ab] at hx;rw[dO] at hb;cases hx;cases hb;exact h
    ·exact HA.out j x b (by omega) hx hb)
   have HF:Hid (¬ Np.mb x.set bb->r=false):=jq (λh=>by
    rw[<-HR.out];exact Np.aS λq=>h (q k _ _ ab dO))
   clear ab dO;obtain⟨Ad,cd,rfl,_,_⟩:=aj aT;obtain⟨As,cs,rfl,_,_⟩:=aj aR;have hcell:wr.cell? ⟨w.heap.size,2,none⟩=some (.slice (some ⟨b2,o2,none⟩) l.length c2):=aIZ HB.out c2';have bR:w.heap.size<wr.heap.size:=by omega
   have aq:b<wr.heap.size:=by omega
   have ac:b2<wr.heap.size:=by omega
   have bi:Hid (∀ o,Below w1.heap.size w1 (wr.alloc o)):=jq (λo=>HB.out.alloc HB.out.size _);have o8:Hid (∀ o,Below w.heap.size w (wr.alloc o)):=jq (λo=>aD.out.alloc (by omega) _);have bF:(0:Int)<=(k:Int):=by omega
   have bL:(k:Int)<(l.length:Int):=by omega
   have aW:=jq ay;have er:=jq pS;obtain⟨ty,fB⟩:=aJZ x.set.type;have fK:=jq fB;rw[fB] at e1;clear ay pS aT aR fB;by_cases dN:bb = []
   ·obtain rfl:sb=⟨#[]⟩:=mT (by rw[er.out,dN]);have bG:=jq (MK (x:=x.set) dN);clear dN;by_cases h6:ty=6
    ·have HX:Hid (r=false):=jq (HF.out λh=>(bG.out.1 h) (fK.out.trans h6));subst h6;go_wp2_with fail;go_ret;exact⟨ae HX.out.symm,o8.out _⟩
    ·have HX:=jq (HN.out (bG.out.2 λh=>h6 (fK.out.symm.trans h)));have h6':(ty == 6)=false:=by simpa using h6
     clear h6;go_wp2_with fail;go_roundw
     case rel=>exact⟨k+1,by omega,by go_num,jq (bi.out _),jq HX.out⟩
     case measure=>simp[intOf] <;> omega
   ·have BB:(sb.toList == [])=false:=by rw[dQ,er.out];simpa using dN
    by_cases jA:bb=x.set.name
    ·have Ip:(sb.toList == sn.toList)=true:=by rw[dQ,dQ,er.out,aW.out];simpa using jA
     have bG:=jq (ML (x:=x.set) dN jA);clear dN jA;by_cases ht:ty=2\/ty=6\/ty=8\/ty=1
     ·have HX:=jq (HN.out (bG.out.2 (by rw[fK.out];exact ht)));rcases ht with rfl | rfl | rfl | rfl
      all_goals
       go_wp2_with fail;go_roundw
       case rel=>exact⟨k+1,by omega,by go_num,jq (bi.out _),jq HX.out⟩
       case measure=>simp[intOf] <;> omega
     ·have HX:Hid (r=false):=jq (HF.out λh=>ht (by have:=bG.out.1 h;rwa [fK.out] at this));have t1:(ty != 2)=true:=by simp;omega
      have t2:(ty != 6)=true:=by simp;omega
      have t3:(ty != 8)=true:=by simp;omega
      have t4:(ty != 1)=true:=by simp;omega
      clear ht;go_wp2_with fail;go_ret;exact⟨ae HX.out.symm,o8.out _⟩
    ·have Ip:(sb.toList == sn.toList)=false:=by rw[dQ,dQ,er.out,aW.out];simpa using jA
     have bG:=jq (MM (x:=x.set) dN jA);clear dN jA;by_cases ht:ty=1
     ·have HX:=jq (HN.out (bG.out.2 (by rw[fK.out];exact ht)));subst ht;go_wp2_with fail;go_roundw
      case rel=>exact⟨k+1,by omega,by go_num,jq (bi.out _),jq HX.out⟩
      case measure=>simp[intOf] <;> omega
     ·have HX:Hid (r=false):=jq (HF.out λh=>ht (by have:=bG.out.1 h;rwa [fK.out] at this));have t4:(ty != 1)=true:=by simpa using ht
      clear ht;go_wp2_with fail;go_ret;exact⟨ae HX.out.symm,o8.out _⟩
  ·go_wp2_with fail;go_ret;refine⟨ae ?_,aD.out⟩;rw[<-HR.out];exact (Np.cu λi x b hx hb=>HA.out i x b (by have:=(cQ.1 hx).1;omega) hx hb).symm
def Np.yX(l:List Np.Signed)(k:Nat)(x:Np.Signed):Prop:=x.set.type=3->(∀ p,0<k->l[k - 1]?=some p->p.set.name≠x.set.name)/\∀ n,l[k+1]?=some n->n.set.name=x.set.name->n.set.type=8
def Np.yY(l:List Np.Signed):Prop:=∀ k x,l[k]?=some x->Np.yX l k x
theorem Ux(a:ByteArray)(v:Value)(A2:Option Addr)(n2 c2:Nat)(l:List Np.Signed)(bw:l.length<=20000)(w:World)(hd:SlR cV 5 w w.heap.size v l) :
 Calls prog 201 #[.agg #[.string a,v,.slice A2 n2 c2]] w (aOJ w.heap.size w (.bool (Np.yes (Np.yY l)))):=by
 obtain⟨r,hr⟩:=aJZ (Np.yes (Np.yY l));rw[hr];have HR:=jq hr;have HD:=jq hd;obtain⟨A,c,rfl,be,bC⟩:=aj hd;clear hr hd;have HW:Hid (∀ o,Below w.heap.size w (w.alloc o)):=jq (λo=>(vQ _ w).alloc (bQ _) _);go_enter func201,ntmps201;go_wp2_with fail;obtain⟨w1,ai⟩:=aJZ (w.alloc (.cells #[.string a,.slice A l.length c,.slice A2 n2 c2] 265));have c2':w1.cell? ⟨w.heap.size,1,none⟩=some (.slice A l.length c):=by rw[<-ai];simp[go_sem]
 have cI:w.heap.size<w1.heap.size:=by rw[<-ai];simp
 have am:Hid (Below w.heap.size w w1):=jq (by rw[<-ai];exact HW.out _);rw[ai];clear ai;go_loopw [10] (λi wr=>∃ k:Nat,k<=l.length/\i = .int .i64 k/\Hid (Below w1.heap.size w1 wr)/\Hid (∀ j x,j<k->l[j]?=some x->Np.yX l j x)) (λi _=>l.length - (intOf i).toNat)
 case atStart=>exact⟨0,jQ _,rfl,jq (vQ _ _),jq (λj x hj=>by omega)⟩
 case round=>
  obtain⟨k,hk,rfl,HB,HA⟩:=hrel;have al:=HB.out.size;have aD:=aIX am HB.out;by_cases aa:k<l.length
  ·obtain⟨x,ab⟩:∃ x,l[k]?=some x:=⟨_,aQ aa⟩;obtain⟨b,o,c',sn,dv,sv,hA,bj,_,ay,cC,aT,aR,e0,e1,e2,e3,e4⟩:=fE (HD.out.keep bU aD.out) ab
   cases hA
   have HN:Hid (Np.yX l k x->∀ j x,j<k+1->l[j]?=some x->Np.yX l j x):=jq (λh j y hj hy=>by
    by_cases e:j=k
    ·subst e;rw[ab] at hy;cases hy;exact h
    ·exact HA.out j y (by omega) hy)
   have HF:Hid (¬ Np.yX l k x->r=false):=jq (λh=>by
    rw[<-HR.out];exact Np.aS λq=>h (q k x ab))
   have Lu:Hid (∀ (m:Nat) (y:Np.Signed),l[m]?=some y->∃ (sy:ByteArray),sy.data.toList=y.set.name/\wr.cell? ⟨b,o+m * 5,none⟩=some (.string sy)/\wr.cell? ⟨b,o+m * 5+1,none⟩=some (.int .i64 y.set.type)):=jq (λm y hy=>by
    obtain⟨b9,o9,c9,sy,dv9,sv9,hA,_,_,iC,_,_,_,q0,q1,_⟩:=fE (HD.out.keep bU aD.out) hy;simp only[Value.slice.injEq,Option.some.injEq,Addr.mk.injEq,and_true,true_and] at hA;obtain⟨⟨rfl,rfl⟩,-⟩:=hA;exact⟨sy,iC,q0,q1⟩)
   clear ab;obtain⟨Ad,cd,rfl,_,_⟩:=aj aT;obtain⟨As,cs,rfl,_,_⟩:=aj aR;have hcell:wr.cell? ⟨w.heap.size,1,none⟩=some (.slice (some ⟨b,o,none⟩) l.length c):=aIZ HB.out c2';have bR:w.heap.size<wr.heap.size:=by omega
   have aq:b<wr.heap.size:=by omega
   have bi:Hid (∀ o,Below w1.heap.size w1 (wr.alloc o)):=jq (λo=>HB.out.alloc HB.out.size _);have o8:Hid (∀ o,Below w.heap.size w (wr.alloc o)):=jq (λo=>aD.out.alloc (by omega) _);have bF:(0:Int)<=(k:Int):=by omega
   have bL:(k:Int)<(l.length:Int):=by omega
   have aW:=jq ay;obtain⟨ty,fB⟩:=aJZ x.set.type;have fK:=jq fB;rw[fB] at e1;clear ay aT aR fB;by_cases h3:ty=3
   ·obtain⟨w2,ag⟩:=aJZ (wr.alloc (.cells #[.string sn,.int .i64 ty,.int .i64 x.set.life,.slice Ad x.set.data.length cd,.slice As x.sigs.length cs] 42));subst h3;have t3:((3:Int) != 3)=false:=by decide
    have Im:∃ q:Bool,Hid (q=true↔∃ p,0<k/\l[k - 1]?=some p/\p.set.name=x.set.name)/\((k=0/\q=false)\/∃ (m:Nat) (y:Np.Signed) (sy:ByteArray),k=m+1/\wr.cell? ⟨b,o+m * 5,none⟩=some (.string sy)/\(sy.toList == sn.toList)=q):=by
     by_cases ji:k=0
     ·exact⟨false,jq ⟨λh=>(by cases h),λ⟨p,h,_⟩=>(by omega)⟩,.inl ⟨ji,rfl⟩⟩
     ·obtain⟨m,rfl⟩:∃ m,k=m+1:=⟨k - 1,by omega⟩;obtain⟨y,hy⟩:∃ y,l[m]?=some y:=⟨_,aQ (by omega)⟩;obtain⟨sy,iC,q0,q1⟩:=Lu.out m y hy;refine⟨_,jq ?_,.inr ⟨m,y,sy,rfl,q0,rfl⟩⟩;rw[dQ,dQ,iC,aW.out,beq_iff_eq];constructor
      ·intro h;exact⟨y,by omega,by simpa using hy,h⟩
      ·rintro⟨p,_,hp,h⟩;rw[show m+1 - 1=m by omega,hy] at hp
       cases hp;exact h
    have WP:∃ q1 q2:Bool,Hid (∀ n,l[k+1]?=some n->(q1=true↔n.set.name=x.set.name)/\(q2=true↔n.set.type≠8))/\((l.length=k+1/\q1=false)\/∃ (y:Np.Signed) (sy:ByteArray) (ny:Int),k+1<l.length/\wr.cell? ⟨b,o+(k+1) * 5,none⟩=some (.string sy)/\wr.cell? ⟨b,o+(k+1) * 5+1,none⟩=some (.int .i64 ny)/\(sy.toList == sn.toList)=q1/\(ny != 8)=q2):=by
     by_cases oM:l.length=k+1
     ·exact⟨false,false,jq (λn hn=>by have:=(cQ.1 hn).1;omega),.inl ⟨oM,rfl⟩⟩
     ·obtain⟨y,hy⟩:∃ y,l[k+1]?=some y:=⟨_,aQ (by omega)⟩;obtain⟨sy,iC,q0,q1⟩:=Lu.out (k+1) y hy;refine⟨_,_,jq (λn hn=>?_),.inr ⟨y,sy,y.set.type,by omega,q0,q1,rfl,rfl⟩⟩;rw[hy] at hn;cases hn;rw[dQ,dQ,iC,aW.out,beq_iff_eq];exact⟨Iff.rfl,by simp⟩
    clear ag w2;obtain⟨qb,ro,BJ⟩:=Im;obtain⟨q1,q2,C0,gL⟩:=WP;have KC:Hid (∀ o n,Below w1.heap.size w1 ((wr.alloc o).drewN n)):=jq (λo n=>below_drewN (HB.out.alloc HB.out.size _) _);have Fp:Hid (∀ o n,Below w.heap.size w ((wr.alloc o).drewN n)):=jq (λo n=>below_drewN (aD.out.alloc (by omega) _) _);have vR:∀ o' n,(wr.alloc o').drewN n=(wr.alloc o').drewN n:=λ_ _=>rfl;clear vR
    cases qb with
    | true=>
     have HX:Hid (r=false):=jq (HF.out λh=>by
      obtain⟨p,OL,hp,he⟩:=ro.out.1 rfl;exact (h fK.out).1 p OL hp he)
     rcases BJ with ⟨_,h⟩ | ⟨m,y,sy,mJ,g0,rZ⟩
     ·cases h
     ·have gU:decide ((0:Int)<(k:Int))=true:=by simp;omega
      have iz:decide (0<k)=true:=by simp;omega
      have Jl:IntKind.i64.wrap ((k:Int) - 1)=(m:Int):=by rw[IntWalk.i64_in _ (by omega)];omega
      have Eo:(k:Int) - 1=(m:Int):=by omega
      have jh:(0:Int)<=(m:Int):=by omega
      have rM:(m:Int)<(l.length:Int):=by omega
      clear mJ;go_wp2_with fail;go_quiet (fail);go_wp2_with fail;go_ret;exact⟨ae HX.out.symm,Fp.out _ _⟩
    | false=>
     have aA:Hid (∀ p,0<k->l[k - 1]?=some p->p.set.name≠x.set.name):=jq (λp h0 hp he=>by
      have:=ro.out.2 ⟨p,h0,hp,he⟩
      cases this)
     rcases BJ with ⟨ji,_⟩ | ⟨m,y,sy,mJ,g0,rZ⟩
     ·have gU:decide ((0:Int)<(k:Int))=false:=by simp;omega
      have iz:decide (0<k)=false:=by simp;omega
      clear ji;go_wp2_with fail;go_quiet (fail);go_wp2_with fail;obtain⟨w4,cg⟩:=aJZ ((wr.alloc (.cells #[.string sn,.int .i64 3,.int .i64 x.set.life,.slice Ad x.set.data.length cd,.slice As x.sigs.length cs] 42)).drewN nq);rw[cg];have uX:Hid (Below w1.heap.size w1 w4):=jq (by rw[<-cg];exact KC.out _ _);have GJ:Hid (Below w.heap.size w w4):=jq (by rw[<-cg];exact Fp.out _ _);have ar:Below wr.heap.size wr w4:=by rw[<-cg];exact below_drewN ((vQ _ _).alloc (bQ _) _) _
      have n4:w4.cell? ⟨wr.heap.size,0,none⟩=some (.string sn):=by rw[<-cg];simp[go_sem]
      have DS:w4.cell? ⟨w.heap.size,1,none⟩=some (.slice (some ⟨b,o,none⟩) l.length c):=aIZ ar hcell;rcases gL with ⟨oM,rfl⟩ | ⟨y',sy',ny,oM,k0,k1,I3,tR⟩
      ·have HX:=jq (HN.out (λ_=>⟨aA.out,λn hn=>by have:=(cQ.1 hn).1;omega⟩));have av:decide ((k:Int)+1<(l.length:Int))=false:=by simp;omega
       have cW:decide (k+1<l.length)=false:=by simp;omega
       clear oM;clear ar cg;go_wp2_with fail;go_quiet (fail);go_wp2_with fail;go_roundw
       case rel=>exact⟨k+1,by omega,by go_num,jq (below_drewN uX.out _),jq HX.out⟩
       case measure=>simp[intOf] <;> omega
      ·have k04:w4.cell? ⟨b,o+(k+1) * 5,none⟩=some (.string sy'):=aIZ ar k0;have k14:w4.cell? ⟨b,o+(k+1) * 5+1,none⟩=some (.int .i64 ny):=aIZ ar k1;obtain⟨j,hj⟩:=aJZ (k+1);have ha:IntKind.i64.wrap ((k:Int)+1)=(j:Int):=by rw[IntWalk.i64_in _ (by omega)];omega
       have WF:(k:Int)+1=(j:Int):=by omega
       have av:decide ((j:Int)<(l.length:Int))=true:=by simp;omega
       have cW:decide (j<l.length)=true:=by simp;omega
       have jD:(0:Int)<=(j:Int):=by omega
       have rO:(j:Int)<(l.length:Int):=by omega
       rw[hj] at k04 k14 C0;have HJ:=jq hj;have aL:b<w4.heap.size:=by have:=ar.size;omega
       clear ar cg k0 k1 hj oM;obtain⟨n,hn⟩:∃ n,l[j]?=some n:=⟨_,aQ (by omega)⟩;have og:=jq (C0.out n hn);have cw:=jq hn;clear hn
       cases q1 with
       | false=>
        have HX:=jq (HN.out (λ_=>⟨aA.out,λn' hn' he=>by
         rw[HJ.out,cw.out] at hn';cases hn'
         have:=og.out.1.2 he
         cases this⟩))
        go_wp2_with fail;go_quiet (fail);go_wp2_with fail;go_roundw
        case rel=>exact⟨k+1,by omega,by go_num,jq (below_drewN uX.out _),jq HX.out⟩
        case measure=>simp[intOf] <;> omega
       | true=>
        cases q2 with
        | false=>
         have HX:=jq (HN.out (λ_=>⟨aA.out,λn' hn' _=>by
          rw[HJ.out,cw.out] at hn';cases hn';refine Decidable.not_not.1 λh8=>?_
          have:=og.out.2.2 h8
          cases this⟩))
         go_wp2_with fail;go_quiet (fail);go_wp2_with fail;go_roundw
         case rel=>exact⟨k+1,by omega,by go_num,jq (below_drewN uX.out _),jq HX.out⟩
         case measure=>simp[intOf] <;> omega
        | true=>
         have HX:Hid (r=false):=jq (HF.out λh=>(og.out.2.1 rfl) ((h fK.out).2 n (by rw[HJ.out];exact cw.out) (og.out.1.1 rfl)));go_wp2_with fail;go_quiet (fail);go_wp2_with fail;go_ret;exact⟨ae HX.out.symm,below_drewN GJ.out _⟩
     ·have gU:decide ((0:Int)<(k:Int))=true:=by simp;omega
      have iz:decide (0<k)=true:=by simp;omega
      have Jl:IntKind.i64.wrap ((k:Int) - 1)=(m:Int):=by rw[IntWalk.i64_in _ (by omega)];omega
      have Eo:(k:Int) - 1=(m:Int):=by omega
      have jh:(0:Int)<=(m:Int):=by omega
      have rM:(m:Int)<(l.length:Int):=by omega
      clear mJ;go_wp2_with fail;go_quiet (fail);go_wp2_with fail;obtain⟨w4,cg⟩:=aJZ ((wr.alloc (.cells #[.string sn,.int .i64 3,.int .i64 x.set.life,.slice Ad x.set.data.length cd,.slice As x.sigs.length cs] 42)).drewN nq);rw[cg];have uX:Hid (Below w1.heap.size w1 w4):=jq (by rw[<-cg];exact KC.out _ _);have GJ:Hid (Below w.heap.size w w4):=jq (by rw[<-cg];exact Fp.out _ _);have ar:Below wr.heap.size wr w4:=by rw[<-cg];exact below_drewN ((vQ _ _).alloc (bQ _) _) _
      have n4:w4.cell? ⟨wr.heap.size,0,none⟩=some (.string sn):=by rw[<-cg];simp[go_sem]
      have DS:w4.cell? ⟨w.heap.size,1,none⟩=some (.slice (some ⟨b,o,none⟩) l.length c):=aIZ ar hcell;rcases gL with ⟨oM,rfl⟩ | ⟨y',sy',ny,oM,k0,k1,I3,tR⟩
      ·have HX:=jq (HN.out (λ_=>⟨aA.out,λn hn=>by have:=(cQ.1 hn).1;omega⟩));have av:decide ((k:Int)+1<(l.length:Int))=false:=by simp;omega
       have cW:decide (k+1<l.length)=false:=by simp;omega
       clear oM;clear ar cg;go_wp2_with fail;go_quiet (fail);go_wp2_with fail;go_roundw
       case rel=>exact⟨k+1,by omega,by go_num,jq (below_drewN uX.out _),jq HX.out⟩
       case measure=>simp[intOf] <;> omega
      ·have k04:w4.cell? ⟨b,o+(k+1) * 5,none⟩=some (.string sy'):=aIZ ar k0;have k14:w4.cell? ⟨b,o+(k+1) * 5+1,none⟩=some (.int .i64 ny):=aIZ ar k1;obtain⟨j,hj⟩:=aJZ (k+1);have ha:IntKind.i64.wrap ((k:Int)+1)=(j:Int):=by rw[IntWalk.i64_in _ (by omega)];omega
       have WF:(k:Int)+1=(j:Int):=by omega
       have av:decide ((j:Int)<(l.length:Int))=true:=by simp;omega
       have cW:decide (j<l.length)=true:=by simp;omega
       have jD:(0:Int)<=(j:Int):=by omega
       have rO:(j:Int)<(l.length:Int):=by omega
       rw[hj] at k04 k14 C0;have HJ:=jq hj;have aL:b<w4.heap.size:=by have:=ar.size;omega
       clear ar cg k0 k1 hj oM;obtain⟨n,hn⟩:∃ n,l[j]?=some n:=⟨_,aQ (by omega)⟩;have og:=jq (C0.out n hn);have cw:=jq hn;clear hn
       cases q1 with
       | false=>
        have HX:=jq (HN.out (λ_=>⟨aA.out,λn' hn' he=>by
         rw[HJ.out,cw.out] at hn';cases hn'
         have:=og.out.1.2 he
         cases this⟩))
        go_wp2_with fail;go_quiet (fail);go_wp2_with fail;go_roundw
        case rel=>exact⟨k+1,by omega,by go_num,jq (below_drewN uX.out _),jq HX.out⟩
        case measure=>simp[intOf] <;> omega
       | true=>
        cases q2 with
        | false=>
         have HX:=jq (HN.out (λ_=>⟨aA.out,λn' hn' _=>by
          rw[HJ.out,cw.out] at hn';cases hn';refine Decidable.not_not.1 λh8=>?_
          have:=og.out.2.2 h8
          cases this⟩))
         go_wp2_with fail;go_quiet (fail);go_wp2_with fail;go_roundw
         case rel=>exact⟨k+1,by omega,by go_num,jq (below_drewN uX.out _),jq HX.out⟩
         case measure=>simp[intOf] <;> omega
        | true=>
         have HX:Hid (r=false):=jq (HF.out λh=>(og.out.2.1 rfl) ((h fK.out).2 n (by rw[HJ.out];exact cw.out) (og.out.1.1 rfl)));go_wp2_with fail;go_quiet (fail);go_wp2_with fail;go_ret;exact⟨ae HX.out.symm,below_drewN GJ.out _⟩
   ·have HX:=jq (HN.out (λh=>absurd (fK.out.symm.trans h) h3));have h3':(ty != 3)=true:=by simpa using h3
    clear h3;go_wp2_with fail;go_roundw
    case rel=>exact⟨k+1,by omega,by go_num,jq (bi.out _),jq HX.out⟩
    case measure=>simp[intOf] <;> omega
  ·go_wp2_with fail;go_ret;refine⟨ae ?_,aD.out⟩;rw[<-HR.out];exact (Np.cu λi x hx=>HA.out i x (by have:=(cQ.1 hx).1;omega) hx).symm
theorem atQ(a:ByteArray)(v bv:Value)(l:List Np.Signed)(B:List (List UInt8))(jZ:B.length=l.length)(w:World)(hd:SlR cV 5 w w.heap.size v l)(pC:SlR RTx 1 w w.heap.size bv B) :
 Calls prog 203 #[.agg #[.string a,v,bv]] w (aOJ w.heap.size w (.bool (Np.yes (Np.zT l B)))):=by
 obtain⟨r,hr⟩:=aJZ (Np.yes (Np.zT l B));rw[hr];have HR:=jq hr;have eK:=jq jZ;have HD:=jq hd;have pb:=jq pC;obtain⟨A,c,rfl,be,bC⟩:=aj hd;obtain⟨A2,c2,rfl,dV,dJ⟩:=aj pC;rw[jZ] at dV dJ pb |-;clear hr hd pC jZ;have HW:Hid (∀ o,Below w.heap.size w (w.alloc o)):=jq (λo=>(vQ _ w).alloc (bQ _) _);go_enter func203,ntmps203;go_wp2_with fail;obtain⟨w1,ai⟩:=aJZ (w.alloc (.cells #[.string a,.slice A l.length c,.slice A2 l.length c2] 265));have c2':w1.cell? ⟨w.heap.size,2,none⟩=some (.slice A2 l.length c2):=by rw[<-ai];simp[go_sem]
 have cI:w.heap.size<w1.heap.size:=by rw[<-ai];simp
 have am:Hid (Below w.heap.size w w1):=jq (by rw[<-ai];exact HW.out _);rw[ai];clear ai;go_loopw [11] (λi wr=>∃ k:Nat,k<=l.length/\i = .int .i64 k/\Hid (Below w1.heap.size w1 wr)/\Hid (∀ j x b,j<k->l[j]?=some x->B[j]?=some b->(b≠[]->x.set.type=2\/x.set.type=1->x.sigs = []))) (λi _=>l.length - (intOf i).toNat)
 case atStart=>exact⟨0,jQ _,rfl,jq (vQ _ _),jq (λj x b hj=>by omega)⟩
 case round=>
  obtain⟨k,hk,rfl,HB,HA⟩:=hrel;have al:=HB.out.size;have aD:=aIX am HB.out;by_cases aa:k<l.length
  ·obtain⟨x,ab⟩:∃ x,l[k]?=some x:=⟨_,aQ aa⟩;obtain⟨bb,dO⟩:∃ bb,B[k]?=some bb:=⟨_,aQ (by rw[eK.out];omega)⟩;obtain⟨b,o,c',sn,dv,sv,hA,bj,_,ay,cC,aT,aR,e0,e1,e2,e3,e4⟩:=fE (HD.out.keep bU aD.out) ab
   cases hA
   obtain⟨b2,o2,sb,rfl,yi,pS,Jb,g0⟩:=pW (pb.out.keep mS aD.out) dO;have HN:Hid ((bb≠[]->x.set.type=2\/x.set.type=1->x.sigs = [])->∀ j x b,j<k+1->l[j]?=some x->B[j]?=some b->(b≠[]->x.set.type=2\/x.set.type=1->x.sigs = [])):=jq (λh j x b hj hx hb=>by
    by_cases e:j=k
    ·subst e;rw[ab] at hx;rw[dO] at hb;cases hx;cases hb;exact h
    ·exact HA.out j x b (by omega) hx hb)
   have HF:Hid (¬ (bb≠[]->x.set.type=2\/x.set.type=1->x.sigs = [])->r=false):=jq (λh=>by
    rw[<-HR.out];exact Np.aS λq=>h (q k _ _ ab dO))
   clear ab dO;obtain⟨Ad,cd,rfl,_,_⟩:=aj aT;obtain⟨As,cs,rfl,_,_⟩:=aj aR;have hcell:wr.cell? ⟨w.heap.size,2,none⟩=some (.slice (some ⟨b2,o2,none⟩) l.length c2):=aIZ HB.out c2';have bR:w.heap.size<wr.heap.size:=by omega
   have aq:b<wr.heap.size:=by omega
   have ac:b2<wr.heap.size:=by omega
   have bi:Hid (∀ o,Below w1.heap.size w1 (wr.alloc o)):=jq (λo=>HB.out.alloc HB.out.size _);have o8:Hid (∀ o,Below w.heap.size w (wr.alloc o)):=jq (λo=>aD.out.alloc (by omega) _);have bF:(0:Int)<=(k:Int):=by omega
   have bL:(k:Int)<(l.length:Int):=by omega
   have aW:=jq ay;have er:=jq pS;obtain⟨ty,fB⟩:=aJZ x.set.type;have fK:=jq fB;rw[fB] at e1;clear ay pS aT aR fB;by_cases dN:bb = []
   ·obtain rfl:sb=⟨#[]⟩:=mT (by rw[er.out,dN]);have HX:=jq (HN.out (λh=>absurd dN h));clear dN;go_wp2_with fail;go_roundw
    case rel=>exact⟨k+1,by omega,by go_num,jq (bi.out _),jq HX.out⟩
    case measure=>simp[intOf] <;> omega
   ·have BB:(sb.toList == [])=false:=by rw[dQ,er.out];simpa using dN
    have R1:=jq dN;clear dN;by_cases ht:ty=2\/ty=1
    ·by_cases tF:x.sigs.length=0
     ·have HX:=jq (HN.out (λ_ _=>rQ tF));rw[tF] at e4;clear tF;rcases ht with rfl | rfl
      all_goals
       go_wp2_with fail;go_roundw
       case rel=>exact⟨k+1,by omega,by go_num,jq (bi.out _),jq HX.out⟩
       case measure=>simp[intOf] <;> omega
     ·have HX:Hid (r=false):=jq (HF.out λh=>tF (by rw[h R1.out (by rw[fK.out];exact ht)];rfl));have XX:0<x.sigs.length:=by omega
      have aWQ:(0:Int)<(x.sigs.length:Int):=by omega
      clear tF;rcases ht with rfl | rfl
      all_goals
       go_wp2_with fail;go_ret;exact⟨ae HX.out.symm,o8.out _⟩
    ·have HX:=jq (HN.out (λ_ h=>absurd (by rw[fK.out] at h;exact h) ht));have t1:(ty == 2)=false:=by simp;omega
     have t2:(ty == 1)=false:=by simp;omega
     clear ht;go_wp2_with fail;go_roundw
     case rel=>exact⟨k+1,by omega,by go_num,jq (bi.out _),jq HX.out⟩
     case measure=>simp[intOf] <;> omega
  ·go_wp2_with fail;go_ret;refine⟨ae ?_,aD.out⟩;rw[<-HR.out];exact (Np.cu λi x b hx hb=>HA.out i x b (by have:=(cQ.1 hx).1;omega) hx hb).symm
theorem VZ(a:ByteArray)(v:Value)(A2:Option Addr)(n2 c2:Nat)(l:List Np.Signed)(w:World)(hd:SlR cV 5 w w.heap.size v l) :
 Calls prog 204 #[.agg #[.string a,v,.slice A2 n2 c2]] w (aOJ w.heap.size w (.bool (Np.yes (∀ x∈l,Np.gH a.data.toList x.sigs)))):=by
 obtain⟨r,hr⟩:=aJZ (Np.yes (∀ x∈l,Np.gH a.data.toList x.sigs));rw[hr];have HR:=jq hr;have HD:=jq hd;obtain⟨A,c,rfl,be,bC⟩:=aj hd;clear hr hd;have HW:Hid (∀ o,Below w.heap.size w (w.alloc o)):=jq (λo=>(vQ _ w).alloc (bQ _) _);go_enter func204,ntmps204;go_wp2_with fail;obtain⟨w1,ai⟩:=aJZ (w.alloc (.cells #[.string a,.slice A l.length c,.slice A2 n2 c2] 265));have c2':w1.cell? ⟨w.heap.size,0,none⟩=some (.string a):=by rw[<-ai];simp[go_sem]
 have cI:w.heap.size<w1.heap.size:=by rw[<-ai];simp
 have am:Hid (Below w.heap.size w w1):=jq (by rw[<-ai];exact HW.out _);rw[ai];clear ai;go_loopw [10] (λi wr=>∃ k:Nat,k<=l.length/\i = .int .i64 k/\Hid (Below w1.heap.size w1 wr)/\Hid (∀ j x,j<k->l[j]?=some x->Np.gH a.data.toList x.sigs)) (λi _=>l.length - (intOf i).toNat)
 case atStart=>exact⟨0,jQ _,rfl,jq (vQ _ _),jq (λj x hj=>by omega)⟩
 case round=>
  obtain⟨k,hk,rfl,HB,HA⟩:=hrel;have al:=HB.out.size;have aD:=aIX am HB.out;by_cases aa:k<l.length
  ·obtain⟨x,ab⟩:∃ x,l[k]?=some x:=⟨_,aQ aa⟩;obtain⟨b,o,c',sn,dv,sv,hA,bj,_,ay,cC,aT,aR,e0,e1,e2,e3,e4⟩:=fE (HD.out.keep bU aD.out) ab
   cases hA
   have HN:Hid (Np.gH a.data.toList x.sigs->∀ j x,j<k+1->l[j]?=some x->Np.gH a.data.toList x.sigs):=jq (λh j y hj hy=>by
    by_cases e:j=k
    ·subst e;rw[ab] at hy;cases hy;exact h
    ·exact HA.out j y (by omega) hy)
   have HF:Hid (¬ Np.gH a.data.toList x.sigs->r=false):=jq (λh=>by
    rw[<-HR.out];exact Np.aS λq=>h (q x (gQ ab)))
   clear ab;obtain⟨Ad,cd,rfl,_,_⟩:=aj aT;obtain⟨As,cs,rfl,_,_⟩:=aj aR;have hcell:wr.cell? ⟨w.heap.size,0,none⟩=some (.string a):=aIZ HB.out c2';have oh:=jq (aR.more cE (show w.heap.size<=wr.heap.size by omega));have bR:w.heap.size<wr.heap.size:=by omega
   have aq:b<wr.heap.size:=by omega
   have bi:Hid (∀ o,Below w1.heap.size w1 (wr.alloc o)):=jq (λo=>HB.out.alloc HB.out.size _);have o8:Hid (∀ o,Below w.heap.size w (wr.alloc o)):=jq (λo=>aD.out.alloc (by omega) _);have bF:(0:Int)<=(k:Int):=by omega
   have bL:(k:Int)<(l.length:Int):=by omega
   have aW:=jq ay;clear ay aT aR;go_wp2_with fail;refine (YO a _ x.sigs _ (oh.out.later bH cE ((vQ _ _).alloc (bQ _) _))).mono ?_;rintro e w2 ⟨rfl,hb⟩;have ah:Hid (Below wr.heap.size wr w2):=jq (((vQ _ _).alloc (bQ _) _).trans (hb.mono (by simp)));clear hb
   cases hf:Np.yes (Np.gH a.data.toList x.sigs) with
   | true=>
    have HX:=jq (HN.out (Np.f8.1 hf));clear hf;go_wp2_with fail;go_roundw
    case rel=>exact⟨k+1,by omega,by go_num,jq (HB.out.trans (ah.out.mono HB.out.size)),jq HX.out⟩
    case measure=>simp[intOf] <;> omega
   | false=>
    have HX:=jq (HF.out λh=>by rw[Np.cu h] at hf;cases hf);clear hf;go_wp2_with fail;go_ret;exact⟨ae HX.out.symm,aD.out.trans (ah.out.aKZ)⟩
  ·go_wp2_with fail;go_ret;refine⟨ae ?_,aD.out⟩;rw[<-HR.out];refine (Np.cu λx hx=>?_).symm;obtain⟨j,hj,rfl⟩:=nQ.1 hx;exact HA.out j _ (by omega) (aQ hj)
theorem aCQ{z:Np.Zone}(bw:z.sets.length<=20000):Np.VZone z↔(((((Np.eX z=true/\Np.ApexH z.apex z.sets)/\Np.yY z.sets)/\Np.pZ z.sets (Np.ej z))/\Np.zT z.sets (Np.ej z))/\∀ x∈z.sets,Np.gH z.apex x.sigs):=by
 constructor
 ·intro h;refine⟨⟨⟨⟨⟨h.right,h.start,h.server,h.fits⟩,λk x hx ht=>⟨λp h0 hp he=>?_,λn hn he=>?_⟩⟩,h.cuts⟩,h.sigs⟩,h.form⟩
  ·obtain⟨hk,rfl⟩:=cQ.1 hx;obtain⟨bL,rfl⟩:=cQ.1 hp;obtain⟨m,rfl⟩:∃ m,k=m+1:=⟨k - 1,by omega⟩;exact h.aliasBefore m hk ht he
  ·obtain⟨hk,rfl⟩:=cQ.1 hx;obtain⟨bL,rfl⟩:=cQ.1 hn;exact h.aliasBehind k bL ht he
 ·rintro⟨⟨⟨⟨⟨h1,h2⟩,h3⟩,h4⟩,h5⟩,h6⟩;refine⟨h1,bw,h2.start,h2.server,h2.fits,λi hi ht he=>?_,λi hi ht he=>?_,h4,h5,h6⟩
  ·exact (h3 (i+1) _ (aQ hi) ht).1 _ (by omega) (aQ (by omega)) he
  ·exact (h3 i _ (aQ (by omega)) ht).2 _ (aQ hi) he
theorem sI{P:Prop}(h:Np.yes P=false):¬ P:=λhp=>by rw[Np.cu hp] at h;cases h
theorem RO(a:ByteArray)(ha:a.size<=140737488355328)(v:Value)(l:List Np.Signed)(bw:l.length<=20000)(w:World)(hR:iv w w.heap.size)(hd:SlR cV 5 w w.heap.size v l) :
 Calls prog 120 #[.agg #[.string a,v]] w (aOJ w.heap.size w (.bool (Np.yes (Np.VZone ⟨a.data.toList,l⟩)))):=by
 obtain⟨r,hr⟩:=aJZ (Np.yes (Np.VZone ⟨a.data.toList,l⟩));rw[hr];have HR:Hid (Np.yes (((((Np.eX ⟨a.data.toList,l⟩=true/\Np.ApexH a.data.toList l)/\Np.yY l)/\Np.pZ l (Np.ej ⟨a.data.toList,l⟩))/\Np.zT l (Np.ej ⟨a.data.toList,l⟩))/\∀ x∈l,Np.gH a.data.toList x.sigs)=r):=jq (by
  rw[<-hr];exact (Np.uo (aCQ (z:=⟨a.data.toList,l⟩) bw)).symm)
 have HD:=jq hd;have jw:=jq hR;obtain⟨A,c,rfl,be,bC⟩:=aj hd;clear hr hd hR;have HW:Hid (∀ o o',Below w.heap.size w ((w.alloc o).alloc o')):=jq (λo o'=>((vQ _ w).alloc (bQ _) _).alloc (by simp) _);go_enter func120,ntmps120;go_wp2_with fail;obtain⟨w1,ai⟩:=aJZ ((w.alloc (.cells #[.string a,.slice A l.length c] 44)).alloc (.cells #[.string a,.slice A l.length c] 263));have c0:w1.cell? ⟨w.heap.size+1,0,none⟩=some (.string a):=by rw[<-ai];simp[go_sem]
 have c1:w1.cell? ⟨w.heap.size+1,1,none⟩=some (.slice A l.length c):=by rw[<-ai];simp[go_sem]
 have ba:w1.heap.size=w.heap.size+2:=by rw[<-ai];simp
 have am:Hid (Below w.heap.size w w1):=jq (by rw[<-ai];exact HW.out _ _);rw[ai];clear ai;refine (aGQ a ha _ l bw _ ((jw.out.keep am.out).more (by omega)) (HD.out.later bU fD am.out)).mono ?_;rintro e w2 ⟨rfl,ac⟩;have aN:=ac.size;have ah:=aIX am ac;have d0:w2.cell? ⟨w.heap.size+1,0,none⟩=some (.string a):=aIZ ac c0;have d1:w2.cell? ⟨w.heap.size+1,1,none⟩=some (.slice A l.length c):=aIZ ac c1;clear ac c0 c1
 cases eD:Np.eX ⟨a.data.toList,l⟩ with
 | false=>
  have HX:Hid (r=false):=jq (by rw[<-HR.out];exact Np.aS λh=>by rw[eD] at h;cases h.1.1.1.1.1);clear eD;go_wp2_with fail;go_ret;exact⟨ae HX.out.symm,ah.out⟩
 | true=>
  have iI:=jq eD;have ho:=Np.VZone.inOrder eD;have HS:=jq (auK ho);have qC:=eD;unfold Np.eX at qC;simp only[Bool.and_eq_true] at qC;have NA:=jq qC.1.1;have HV:Hid (∀ x∈l,Np.aG x.set.name=true):=jq (λx hx=>Fb (Np.Dz qC.2 x hx));clear eD qC ho;go_wp2_with fail;refine (UD a ha NA.out _ l bw HV.out HS.out _ (HD.out.later bU fD ah.out)).mono ?_;rintro e w3 ⟨rfl,ak⟩;have gV:=ak.size;have aA:=aIX ah ak;replace d0:=aIZ ak d0;replace d1:=aIZ ak d1;clear ak
  cases oF:Np.yes (Np.ApexH a.data.toList l) with
  | false=>
   have HX:Hid (r=false):=jq (by rw[<-HR.out];exact Np.aS λh=>sI oF h.1.1.1.1.2);clear oF;go_wp2_with fail;go_ret;exact⟨ae HX.out.symm,aA.out⟩
  | true=>
   have nY:=jq (Np.f8.1 oF);clear oF;go_wp2_with fail;refine (Zq a _ l bw HV.out HS.out _ (HD.out.later bU fD aA.out)).mono ?_;rintro e w4 ⟨⟨bv,rfl,ix⟩,ar⟩;have jm:=ar.size;have b7:=aIX aA ar;obtain⟨A2,c2,rfl,dV,dJ⟩:=aj ix;have bB:(Np.ej ⟨a.data.toList,l⟩).length=l.length:=Np.tg _;rw[bB] at dV dJ ix |-;clear bB;have Se:=jq ix;clear ar ix d0 d1;go_wp2_with fail;obtain⟨w5,aJ⟩:=aJZ (w4.alloc (.cells #[.string a,.slice A l.length c,.slice A2 l.length c2] 265));have g0:w5.cell? ⟨w4.heap.size,0,none⟩=some (.string a):=by rw[<-aJ];simp[go_sem]
   have g1:w5.cell? ⟨w4.heap.size,1,none⟩=some (.slice A l.length c):=by rw[<-aJ];simp[go_sem]
   have g2:w5.cell? ⟨w4.heap.size,2,none⟩=some (.slice A2 l.length c2):=by rw[<-aJ];simp[go_sem]
   have kT:w5.heap.size=w4.heap.size+1:=by rw[<-aJ];simp
   have xl:Hid (Below w4.heap.size w4 w5):=jq (by rw[<-aJ];exact (vQ _ _).alloc (bQ _) _);have cG:Hid (Below w.heap.size w w5):=aIX b7 xl.out;have sR:Hid (∀ wx,Below w.heap.size w wx->w.heap.size<=wx.heap.size->SlR cV 5 wx wx.heap.size (.slice A l.length c) l):=jq (λwx hb _=>HD.out.later bU fD hb);have Lg:Hid (∀ wx,Below w4.heap.size w4 wx->SlR RTx 1 wx wx.heap.size (.slice A2 l.length c2) (Np.ej ⟨a.data.toList,l⟩)):=jq (λwx hb=>Se.out.later mS JY hb);have HL:Hid ((Np.ej ⟨a.data.toList,l⟩).length=l.length):=jq (Np.tg _);rw[aJ];clear aJ;refine (Ux a _ A2 l.length c2 l bw _ (sR.out _ cG.out cG.out.size)).mono ?_;rintro e w6 ⟨rfl,aL⟩;have kf:=aL.size;have dj:=aIX cG aL;have KF:=aIX xl aL;replace g0:=aIZ aL g0;replace g1:=aIZ aL g1;replace g2:=aIZ aL g2;clear aL
   cases rY:Np.yes (Np.yY l) with
   | false=>
    have HX:Hid (r=false):=jq (by rw[<-HR.out];exact Np.aS λh=>sI rY h.1.1.1.2);clear rY;go_wp2_with fail;go_ret;exact⟨ae HX.out.symm,dj.out⟩
   | true=>
    have Gz:=jq (Np.f8.1 rY);clear rY;go_wp2_with fail;refine (Vt a _ _ l _ HL.out _ (sR.out _ dj.out dj.out.size) (Lg.out _ KF.out)).mono ?_;rintro e w7 ⟨rfl,cW⟩;have qG:=cW.size;have fG:=aIX dj cW;have RX:=aIX KF cW;replace g0:=aIZ cW g0;replace g1:=aIZ cW g1;replace g2:=aIZ cW g2;clear cW
    cases BI:Np.yes (Np.pZ l (Np.ej ⟨a.data.toList,l⟩)) with
    | false=>
     have HX:Hid (r=false):=jq (by rw[<-HR.out];exact Np.aS λh=>sI BI h.1.1.2);clear BI;go_wp2_with fail;go_ret;exact⟨ae HX.out.symm,fG.out⟩
    | true=>
     have TI:=jq (Np.f8.1 BI);clear BI;go_wp2_with fail;refine (atQ a _ _ l _ HL.out _ (sR.out _ fG.out fG.out.size) (Lg.out _ RX.out)).mono ?_;rintro e w8 ⟨rfl,dt⟩;have qH:=dt.size;have gY:=aIX fG dt;replace g0:=aIZ dt g0;replace g1:=aIZ dt g1;replace g2:=aIZ dt g2;clear dt
     cases vZ:Np.yes (Np.zT l (Np.ej ⟨a.data.toList,l⟩)) with
     | false=>
      have HX:Hid (r=false):=jq (by rw[<-HR.out];exact Np.aS λh=>sI vZ h.1.2);clear vZ;go_wp2_with fail;go_ret;exact⟨ae HX.out.symm,gY.out⟩
     | true=>
      have CZ:=jq (Np.f8.1 vZ);clear vZ;go_wp2_with fail;refine (VZ a _ A2 l.length c2 l _ (sR.out _ gY.out gY.out.size)).mono ?_;rintro e w9 ⟨rfl,dU⟩;have yE:=dU.size;have fH:=aIX gY dU;replace g0:=aIZ dU g0;replace g1:=aIZ dU g1;replace g2:=aIZ dU g2;clear dU
      cases aU:Np.yes (∀ x∈l,Np.gH a.data.toList x.sigs) with
      | false=>
       have HX:Hid (r=false):=jq (by rw[<-HR.out];exact Np.aS λh=>sI aU h.2);clear aU;go_wp2_with fail;go_ret;exact⟨ae HX.out.symm,fH.out⟩
      | true=>
       have TJ:=jq (Np.f8.1 aU);clear aU;go_wp2_with fail;go_ret;exact⟨ae (by rw[<-HR.out];exact (Np.cu ⟨⟨⟨⟨⟨iI.out,nY.out⟩,Gz.out⟩,TI.out⟩,CZ.out⟩,TJ.out⟩).symm),fH.out⟩
def cm(base:Nat)(w:World)(v:Value)(ps:List (List UInt8)):Prop:=w.ownsRow base 9 1 v ps.length (ps.map aC)
theorem cm.form{base:Nat}{w:World}{v:Value}{ps:List (List UInt8)}(h:cm base w v ps):∃ A c,v = .slice A ps.length c:=sF h
theorem cm.alloc{base:Nat}{w:World}{v:Value}{ps:List (List UInt8)}(h:cm base w v ps)(o:Obj):cm base (w.alloc o) v ps:=World.ownsRow.alloc h o
theorem cm.keep{base:Nat}{w w':World}{v:Value}{ps:List (List UInt8)}(h:cm base w v ps)(hb:Below w.heap.size w w'):cm base w' v ps:=cX h (λg hg=>hb.block g (h.lt g hg).2)
theorem cm.slr{base:Nat}{w:World}{v:Value}{ps:List (List UInt8)}(h:cm base w v ps)(hl:ps.length<=140737488355328)(al:∀ x∈ps,x.length<=140737488355328):SlR RTx 1 w w.heap.size v ps:=by
 refine Cj (sz:=1) (e:=9) (base:=base) (λx=>[aC x]) (λ_ _=>rfl) ?_ hl (λx hx=>⟨⟨x.toArray⟩,by simp,al x hx,rfl⟩)
 have:w.ownsRow base 9 1 v ps.length (ps.map aC):=h
 simpa [EC] using this
section
variable {ops:Array Oper} {rest:List Oper} {o:Oper} {a:Act} {Q:Exit->Act->World->Prop}
theorem yW(w:World)(go:o.guard=none)(s x:Operand)(ho:o.op = .call { callee:=.builtin .append,args:=#[s,x],argTypes:=#[116,116] })
 (base:Nat) (v:Value) (ps:List (List UInt8)) (hs:a.eval s=v) (hown:cm base w v ps) (blk:Nat) (y:List UInt8) (hx:a.eval x = .slice (some ⟨blk,0,none⟩) 1 1) (hc:w.cell? ⟨blk,0,none⟩=some (aC y)) (hlen:ps.length<=100000) (dw:base<=w.heap.size)
 (h:∀ v' w',cm base w' v' (ps ++ [y])->Below base w w'->wpList prog ops Q rest (a.put o.dst v') w'):wpList prog ops Q (o::rest) a w:=by
 obtain⟨i0,hi,di,ba,aN⟩:=info_parts Tryz.infoStr;refine wpList_append_own_at w go s x 116 ho base 9 i0 (.string ⟨#[]⟩) 1 16 underlying116 hi di ba aN rfl (by decide) v ps.length (ps.map aC) hs hown ⟨blk,0,none⟩ 1 1 [aC y] hx rfl ?_ (by simp[Value.oneCell']) (by unfold maxLen;omega) (by omega) dw ?_
 ·intro j u hj
  cases j with
  | zero=>simp at hj;subst hj;simpa [Addr.add] using hc
  | succ j=>simp at hj
 ·intro v' w' ho' hg _ _;refine h v' w' ?_ ((vQ _ _).grown hg dw (λk hk=>(hown.lt k hk).1));have e:(ps ++ [y]).length=ps.length+1:=by simp
  unfold cm;rw[e,List.map_append];exact ho'
end
theorem ajJ(a:ByteArray)(v:Value)(l:List Np.Signed)(bw:l.length<=20000)(w:World)(hd:SlR cV 5 w w.heap.size v l) :
 Calls prog 349 #[.agg #[.string a,v]] w (xd RTx 1 w (Np.cR a.data.toList l)):=by
 have HD:=jq hd;obtain⟨A,c,rfl,be,bC⟩:=aj hd;clear hd;have me:Hid (∀ k,(Np.cR a.data.toList (l.take k)).length<=20000):=jq (λk=>by
  unfold Np.cR;rw[List.length_map];exact yQ (List.length_filter_le _ _) (by rw[List.length_take];omega))
 have HW:Hid (∀ o,Below w.heap.size w (w.alloc o)):=jq (λo=>(vQ _ w).alloc (bQ _) _);have sW:Hid (∀ x∈Np.cR a.data.toList l,x.length<=140737488355328):=jq (λx hx=>by
  unfold Np.cR at hx;obtain⟨y,hy,rfl⟩:=List.mem_map.1 hx;obtain⟨j,hj,rfl⟩:=nQ.1 (List.mem_filter.1 hy).1;obtain⟨_,_,_,s,_,_,_,_,_,hs,hz,_⟩:=fE HD.out (aQ hj);rw[<-hs,bk];exact hz)
 go_enter func349,ntmps349;go_wp2_with fail;obtain⟨w1,ai⟩:=aJZ (w.alloc (.cells #[.string a,.slice A l.length c] 44));have c0:w1.cell? ⟨w.heap.size,0,none⟩=some (.string a):=by rw[<-ai];simp[go_sem]
 have c1:w1.cell? ⟨w.heap.size,1,none⟩=some (.slice A l.length c):=by rw[<-ai];simp[go_sem]
 have ba:w1.heap.size=w.heap.size+1:=by rw[<-ai];simp
 have am:Hid (Below w.heap.size w w1):=jq (by rw[<-ai];exact HW.out _);rw[ai];clear ai;go_loopw [3,4] (λvo i wr=>∃ (k:Nat),k<=l.length/\i = .int .i64 k/\Hid (Below w1.heap.size w1 wr)/\Hid (cm w1.heap.size wr vo (Np.cR a.data.toList (l.take k)))) (λ_ i _=>l.length - (intOf i).toNat)
 case atStart=>exact⟨0,jQ _,rfl,jq (vQ _ _),jq ⟨by simp,.inl ⟨rfl,rfl⟩⟩⟩
 case round=>
  obtain⟨k,hk,rfl,HB,HO⟩:=hrel;have al:=HB.out.size;have d0:wr.cell? ⟨w.heap.size,0,none⟩=some (.string a):=aIZ HB.out c0;have d1:wr.cell? ⟨w.heap.size,1,none⟩=some (.slice A l.length c):=aIZ HB.out c1;have aD:=aIX am HB.out;have bR:w.heap.size<wr.heap.size:=by omega
  by_cases aa:k<l.length
  ·obtain⟨x,ab⟩:∃ x,l[k]?=some x:=⟨_,aQ aa⟩;obtain⟨b,o,c',sn,dv,sv,hA,bj,_,ay,cC,aT,aR,f0,f1,f2,f3,f4⟩:=fE (HD.out.keep bU aD.out) ab
   cases hA
   obtain⟨Ad,cd,rfl,_,_⟩:=aj aT;have HT:Hid (Np.cR a.data.toList (l.take (k+1))=if x.set.type=2/\x.set.name≠a.data.toList then Np.cR a.data.toList (l.take k) ++ [x.set.name] else Np.cR a.data.toList (l.take k)):=jq (by
    obtain⟨hl,he⟩:=cQ.1 ab;rw[fQ hl,Np.Vu,he])
   have aW:=jq ay;have bF:(0:Int)<=(k:Int):=by omega
   have bL:(k:Int)<(l.length:Int):=by omega
   have aq:b<wr.heap.size:=by omega
   have bi:Hid (∀ o,Below w1.heap.size w1 (wr.alloc o)):=jq (λo=>HB.out.alloc HB.out.size _);have fI:=jq (me.out k);clear ab ay aT aR f4;by_cases h2:x.set.type=2
   ·have ac:(x.set.type == 2)=true:=by simpa using h2
    by_cases hn:x.set.name=a.data.toList
    ·have jA:(!sn.toList == a.toList)=false:=by rw[dQ,dQ,aW.out,hn];simp
     have lh:=jq (HT.out.trans (Qc λh=>h.2 hn));clear h2 hn;go_wp2_with fail;go_roundw
     case rel=>exact⟨k+1,by omega,by go_num,jq (bi.out _),jq (by rw[lh.out];exact HO.out.alloc _)⟩
     case measure=>simp[intOf] <;> omega
    ·have jA:(!sn.toList == a.toList)=true:=by rw[dQ,dQ,aW.out];simpa using hn
     have lh:=jq (HT.out.trans (Qb ⟨h2,hn⟩));clear h2 hn;go_wp2_with (at_builtin;refine yW _ rfl _ _ rfl w1.heap.size _ (Np.cR a.data.toList (l.take k)) rfl ((HO.out.alloc _).alloc _) (wr.heap.size+1) sn.data.toList (by simp[go_sem]) (by simp[go_sem]) (by have:=fI.out;omega) (by simp;omega) ?_;intro v5 w5 bS av;have H5:=jq (And.intro bS av);clear bS av);go_roundw
     case rel=>exact⟨k+1,by omega,by go_num,jq (((bi.out _).alloc (by simp;omega) _).trans H5.out.2),jq (by rw[lh.out,<-aW.out];exact H5.out.1)⟩
     case measure=>simp[intOf] <;> omega
   ·have ac:(x.set.type == 2)=false:=by simpa using h2
    have lh:=jq (HT.out.trans (Qc λh=>h2 h.1));clear h2;go_wp2_with fail;go_roundw
    case rel=>exact⟨k+1,by omega,by go_num,jq (bi.out _),jq (by rw[lh.out];exact HO.out.alloc _)⟩
    case measure=>simp[intOf] <;> omega
  ·have HE:Hid (l.take k=l):=jq (kQ (by omega));go_wp2_with fail;go_ret;refine⟨_,rfl,?_,aD.out⟩;have h1:=HO.out;have h2:=me.out k;rw[HE.out] at h1 h2;exact h1.slr (by omega) sW.out
theorem Oi(l:List (List UInt8)):∀ k,(Np.el (l.take k)).length<=k:=by
 intro k;have key:∀ (r o:List (List UInt8)),(r.foldl Np.oL o).length<=o.length+r.length:=by
  intro r
  induction r with
  | nil=>intro o;simp
  | cons c r ih=>
   intro o;have h1:(Np.oL o c).length<=o.length+1:=by
    unfold Np.oL
    cases o.getLast? with
    | none=>simp
    | some q=>dsimp only;split <;> simp
   have:=ih (Np.oL o c)
   rw[List.foldl_cons,List.length_cons];omega
 have:=key (l.take k) []
 rw[List.length_take] at this;unfold Np.el;simp at this;omega
theorem IJ(l:List (List UInt8)):∀ x∈Np.el l,x∈l:=by
 have key:∀ (r o:List (List UInt8)),∀ x∈r.foldl Np.oL o,x∈o\/x∈r:=by
  intro r
  induction r with
  | nil=>intro o x hx;exact .inl hx
  | cons c r ih=>
   intro o x hx;rcases ih _ x hx with h | h
   ·unfold Np.oL at h
    cases hg:o.getLast? with
    | none=>rw[hg] at h;simp at h;exact .inr (by simp[h])
    | some q=>
     rw[hg] at h;dsimp only at h;split at h
     ·exact .inl h
     ·rcases List.mem_append.1 h with h | h
      ·exact .inl h
      ·simp at h;exact .inr (by simp[h])
   ·exact .inr (mQ _ h)
 intro x hx;rcases key l [] x hx with h | h
 ·cases h
 ·exact h
theorem qY{x:List UInt8}(h:Np.aG x=true):x.length<=60:=by
 unfold Np.aG at h;split at h
 ·rename_i e;rw[e];decide
 ·split at h
  ·cases h
  ·omega
theorem akK(a:ByteArray)(v:Value)(l:List Np.Signed)(bw:l.length<=20000)(hv:∀ x∈l,Np.aG x.set.name=true)(w:World)(hd:SlR cV 5 w w.heap.size v l) :
 Calls prog 305 #[.agg #[.string a,v]] w (xd RTx 1 w (Np.el (Np.cR a.data.toList l))):=by
 have HD:=jq hd;obtain⟨A,c,rfl,be,bC⟩:=aj hd;have HW:Hid (∀ o,Below w.heap.size w (w.alloc o)):=jq (λo=>(vQ _ w).alloc (bQ _) _);have uV:Hid (∀ x∈Np.cR a.data.toList l,Np.aG x=true):=jq (λx hx=>by
  unfold Np.cR at hx;obtain⟨y,hy,rfl⟩:=List.mem_map.1 hx;exact hv y (List.mem_filter.1 hy).1)
 clear hd hv;go_enter func305,ntmps305;go_wp2_with fail;refine (ajJ a _ l bw _ (HD.out.later bU fD (HW.out _))).mono ?_;rintro e w1 ⟨vc,rfl,Ji,aq⟩;have ba:w.heap.size<w1.heap.size:=by have:=aq.size;simp at this;omega
 have am:=jq ((HW.out _).trans (aq.mono (by simp)));clear aq;have jB:(Np.cR a.data.toList l).length<=20000:=by
  unfold Np.cR;rw[List.length_map];exact yQ (List.length_filter_le _ _) bw
 generalize Np.cR a.data.toList l=cs at *;obtain⟨Ac,cc,rfl,tw,aOK⟩:=aj Ji;have HC:=jq Ji;clear Ji;go_wp2_with fail;go_loopw [4,5] (λvo i wr=>∃ (k:Nat),k<=cs.length/\i = .int .i64 k/\Hid (Below w1.heap.size w1 wr)/\Hid (cm w1.heap.size wr vo (Np.el (cs.take k)))) (λ_ i _=>cs.length - (intOf i).toNat)
 case atStart=>exact⟨0,jQ _,rfl,jq (vQ _ _),jq ⟨by simp,.inl ⟨rfl,rfl⟩⟩⟩
 case round=>
  obtain⟨k,hk,rfl,HB,HO⟩:=hrel;have al:=HB.out.size;have aD:=aIX am HB.out;have xM:Hid (∀ x∈Np.el (cs.take k),x.length<=140737488355328):=jq (λx hx=>by
   have:=qY (uV.out x (List.mem_of_mem_take (IJ _ x hx)))
   omega)
  have fI:Hid ((Np.el (cs.take k)).length<=20000):=jq (by have:=Oi cs k;omega);by_cases aa:k<cs.length
  ·obtain⟨x,ab⟩:∃ x,cs[k]?=some x:=⟨_,aQ aa⟩;obtain⟨b,o,sn,rfl,bj,ay,cC,f0⟩:=pW (HC.out.keep mS HB.out) ab;have Uc:Hid (Np.aG x=true):=jq (uV.out x (gQ ab));have HT:Hid (Np.el (cs.take (k+1))=Np.oL (Np.el (cs.take k)) x):=jq (by
    obtain⟨hl,he⟩:=cQ.1 ab;rw[fQ hl,Np.Of,he])
   have aW:=jq ay;have bF:(0:Int)<=(k:Int):=by omega
   have bL:(k:Int)<(cs.length:Int):=by omega
   have aq:b<wr.heap.size:=by omega
   have nA:∀ (g:bO wr) (p:Addr),p.block<wr.heap.size->g.w.cell? p=wr.cell? p:=λg p h=>g.cell p h;have zw:=jq (HO.out.slr (by have:=fI.out;omega) xM.out);have Tz:Hid (∀ y∈Np.el (cs.take k),Np.aG y=true):=jq (λy hy=>uV.out y (List.mem_of_mem_take (IJ _ y hy)));clear ab ay;generalize Np.el (cs.take k)=out at *;obtain⟨Ao,co,rfl⟩:=HO.out.form;by_cases h0:out.length=0
   ·obtain rfl:out = []:=rQ h0;have lh:Hid (Np.el (cs.take (k+1)) = [] ++ [x]):=jq (by rw[HT.out];rfl);clear h0;go_wp2_with fail;refine aMQ ?_
    repeat (go_big_quiet_step (fail))
    refine wpQuiet_nil ?_;rintro _ ⟨g,rfl⟩;have HG:=jq g.below;have jC:=g.size;have fg:g.w.cell? ⟨b,o+k,none⟩=some (.string sn):=(nA g _ aq).trans f0;have Gt:=jq (HO.out.keep g.below);generalize g.w=w2 at *;go_wp2_with (at_builtin;refine yW _ rfl _ _ rfl w1.heap.size _ [] rfl (Gt.out.alloc _) w2.heap.size sn.data.toList (by simp[go_sem]) (by simp[go_sem]) (by simp) (by simp;omega) ?_;intro v5 w5 bS av;have H5:=jq (And.intro bS av);clear bS av);go_roundw
    case rel=>exact⟨k+1,by omega,by go_num,jq (((HB.out.trans (HG.out.aKZ)).alloc (by omega) _).trans H5.out.2),jq (by rw[lh.out,<-aW.out];exact H5.out.1)⟩
    case measure=>simp[intOf] <;> omega
   ·obtain⟨n,hn⟩:∃ n,out.length=n+1:=⟨out.length - 1,by omega⟩;obtain⟨q,hq⟩:∃ q,out[n]?=some q:=⟨_,aQ (by omega)⟩;obtain⟨b2,o2,sq,rfl,yi,kR,aXX,g0⟩:=pW zw.out hq;have qz:out.getLast?=some q:=by rw[List.getLast?_eq_getElem?,hn];exact hq
    have lh:Hid (Np.el (cs.take (k+1))=if Np.bq x q=true then out else out ++ [x]):=jq (by rw[HT.out,Np.oL,qz]);have L2:Hid (Np.aG q=true):=jq (Tz.out q (gQ hq));obtain⟨bu,Iq⟩:=aJZ (Np.bq x q);have cB:∀ g:bO wr,Calls prog 222 #[.string sn,.string sq] g.w λe w'=>e = .returned (.bool bu)/\Below g.w.heap.size g.w w':=λg=>by
     have gL:q≠[]:=λe=>by have:=L2.out;rw[e] at this;exact absurd this (by decide)
     rw[<-Iq,<-Np.B5 gL,<-aW.out,<-kR];have s1:=qY Uc.out;have s2:=qY L2.out;rw[<-aW.out,bk] at s1;rw[<-kR,bk] at s2;exact ES sn sq (by omega) (by omega) _
    have kr:=jq cB;have y8:=jq Iq;obtain⟨N,hN⟩:=aJZ out.length;have HN:=jq hN;have qB:((N:Int) == 0)=false:=by rw[beq_eq_false_iff_ne];omega
    have ai:IntKind.i64.wrap ((N:Int) - 1)=(n:Int):=by rw[IntWalk.i64_in _ (by have:=fI.out;omega)];omega
    have jh:(0:Int)<=(n:Int):=by omega
    have rM:(n:Int)<(N:Int):=by omega
    have LA:Hid (cm w1.heap.size wr (.slice (some ⟨b2,o2,none⟩) N co) out):=jq (by rw[<-hN];exact HO.out);rw[hN];clear hn hq kR qz cB Iq h0 hN
    cases bu with
    | true=>
     have cY:=jq (lh.out.trans (Qb y8.out));go_wp2_with fail;refine aMQ ?_
     repeat (go_big_quiet_step ((go_at_call 222;exact Calls.grow_of (kr.out _))))
     refine wpQuiet_nil ?_;rintro _ ⟨g,rfl⟩;go_wp2_with fail;go_roundw
     case rel=>exact⟨k+1,by omega,by go_num,aIX HB g.below,jq (by rw[cY.out];exact LA.out.keep g.below)⟩
     case measure=>simp[intOf] <;> omega
    | false=>
     have cY:=jq (lh.out.trans (Qc (by rw[y8.out];simp)));go_wp2_with fail;refine aMQ ?_
     repeat (go_big_quiet_step ((go_at_call 222;exact Calls.grow_of (kr.out _))))
     refine wpQuiet_nil ?_;rintro _ ⟨g,rfl⟩;have HG:=jq g.below;have jC:=g.size;have fg:g.w.cell? ⟨b,o+k,none⟩=some (.string sn):=(nA g _ aq).trans f0;have Gt:=jq (LA.out.keep g.below);clear nA;generalize g.w=w2 at *;go_wp2_with (at_builtin;refine yW _ rfl _ _ rfl w1.heap.size _ out rfl (Gt.out.alloc _) w2.heap.size sn.data.toList (by simp[go_sem]) (by simp[go_sem]) (by have:=fI.out;omega) (by simp;omega) ?_;intro v5 w5 bS av;have H5:=jq (And.intro bS av);clear bS av);go_roundw
     case rel=>exact⟨k+1,by omega,by go_num,jq (((HB.out.trans (HG.out.aKZ)).alloc (by omega) _).trans H5.out.2),jq (by rw[cY.out,<-aW.out];exact H5.out.1)⟩
     case measure=>simp[intOf] <;> omega
  ·have HE:Hid (cs.take k=cs):=jq (kQ (by omega));go_wp2_with fail;go_ret;refine⟨_,rfl,?_,aD.out⟩;have h1:=HO.out;have h2:=fI.out;have h3:=xM.out;rw[HE.out] at h1 h2 h3;exact h1.slr (by omega) h3
end
end Go.Proofs.YtfnopgdcaanaiaaGreatDoor
