/- No condition. -/
import Derived.Test.YtadhigmjilijcaaGreatDoorH06
import Derived.Test.YtadhigmjilijcaaGreatDoorH07
set_option linter.all false
set_option maxRecDepth 100000
set_option maxHeartbeats 8000000
namespace Go.Proofs.YtadhigmjilijcaaGreatDoor
open Go.Proofs.Tryz
section
open Go.RowKit
theorem bAJ(a:ByteArray)(v bv:Value)(l:List Np.Signed)(B:List (List UInt8))(j8:B.length=l.length)(w:World)(hd:SlR az 5 w w.heap.size v l)(ez:SlR RTx 1 w w.heap.size bv B) :
 Calls prog 200 #[.agg #[.string a,v,bv]] w (aCX w.heap.size w (.bool (Np.yes (Np.BY l B)))):=by
 obtain⟨r,hr⟩:=aaK (Np.yes (Np.BY l B));rw[hr];have HR:=jq hr;have dP:=jq j8;have HD:=jq hd;have aJ:=jq ez;obtain⟨A,c,rfl,aR,cP⟩:=ba hd;obtain⟨A2,c2,rfl,cH,ei⟩:=ba ez;rw[j8] at cH ei aJ |-;clear hr hd ez j8;have HW:=blW w;go_enter func200,ntmps200;go_wp2_with fail;obtain⟨w1,ah⟩:=aaK (w.alloc (.cells #[.string a,.slice A l.length c,.slice A2 l.length c2] 217));have c2':w1.cell? ⟨w.heap.size,2,none⟩=some (.slice A2 l.length c2):=by rw[<-ah];simp[go_sem]
 have eH:w.heap.size<w1.heap.size:=by rw[<-ah];simp
 have ay:Hid (Below w.heap.size w w1):=jq (by rw[<-ah];exact HW.out _);rw[ah];clear ah;go_loopw [11] (λi wr=>∃ k:Nat,k<=l.length/\i = .int .i64 k/\Hid (Below w1.heap.size w1 wr)/\Hid (∀ j x b,j<k->l[j]?=some x->B[j]?=some b->(b≠[]->x.set.type=2\/x.set.type=1->x.sigs = []))) (λi _=>l.length - (intOf i).toNat)
 case atStart=>exact⟨0,jQ _,rfl,jq (vQ _ _),jq (λj x b hj=>by omega)⟩
 case round=>
  obtain⟨k,hk,rfl,HB,HA⟩:=hrel;have aB:=HB.out.size;have aD:=aaZ ay HB.out;by_cases ag:k<l.length
  ·obtain⟨x,aF⟩:∃ x,l[k]?=some x:=⟨_,aQ ag⟩;obtain⟨bb,fp⟩:∃ bb,B[k]?=some bb:=⟨_,aQ (by rw[dP.out];omega)⟩;obtain⟨b,o,c',sn,dv,sv,hA,cX,_,aP,fK,aV,aZ,e0,e1,e2,e3,e4⟩:=dN (HD.out.keep ax aD.out) aF
   cases hA
   obtain⟨b2,o2,sb,rfl,zy,qO,La,g0⟩:=uc (aJ.out.keep jp aD.out) fp;have HN:Hid ((bb≠[]->x.set.type=2\/x.set.type=1->x.sigs = [])->∀ j x b,j<k+1->l[j]?=some x->B[j]?=some b->(b≠[]->x.set.type=2\/x.set.type=1->x.sigs = [])):=jq (λh j x b hj hx hb=>by
    by_cases e:j=k
    ·subst e;rw[aF] at hx;rw[fp] at hb;cases hx;cases hb;exact h
    ·exact HA.out j x b (by omega) hx hb)
   have HF:Hid (¬ (bb≠[]->x.set.type=2\/x.set.type=1->x.sigs = [])->r=false):=jq (λh=>by
    rw[<-HR.out];exact Np.eX λq=>h (q k _ _ aF fp))
   clear aF fp;obtain⟨Ad,cd,rfl,_,_⟩:=ba aV;obtain⟨As,cs,rfl,_,_⟩:=ba aZ;have hcell:wr.cell? ⟨w.heap.size,2,none⟩=some (.slice (some ⟨b2,o2,none⟩) l.length c2):=aaQ HB.out c2';have gO:w.heap.size<wr.heap.size:=by omega
   have av:b<wr.heap.size:=by omega
   have ae:b2<wr.heap.size:=by omega
   have cu:Hid (∀ o,Below w1.heap.size w1 (wr.alloc o)):=jq (λo=>HB.out.alloc HB.out.size _);have pK:Hid (∀ o,Below w.heap.size w (wr.alloc o)):=jq (λo=>aD.out.alloc (by omega) _);have df:=kNN k;have dg:(k:Int)<(l.length:Int):=by omega
   have bU:=jq aP;have mB:=jq qO;obtain⟨ty,bm⟩:=aaK x.set.type;have fj:=jq bm;rw[bm] at e1;clear aP qO aV aZ bm;by_cases cG:bb = []
   ·obtain rfl:sb=⟨#[]⟩:=iV (by rw[mB.out,cG]);have HX:=jq (HN.out (λh=>absurd cG h));clear cG;go_wp2_with fail;go_roundw
    case rel=>exact⟨k+1,by omega,by go_num,jq (cu.out _),jq HX.out⟩
    ·simp[intOf]<;>omega
   ·have zF:(sb.toList == [])=false:=by rw[dQ,mB.out];simpa using cG
    have nV:=jq cG;clear cG;by_cases ht:ty=2\/ty=1
    ·by_cases CU:x.sigs.length=0
     ·have HX:=jq (HN.out (λ_ _=>rQ CU));rw[CU] at e4;clear CU;rcases ht with rfl | rfl
      all_goals
       go_wp2_with fail;go_roundw
       case rel=>exact⟨k+1,by omega,by go_num,jq (cu.out _),jq HX.out⟩
       ·simp[intOf]<;>omega
     ·have HX:Hid (r=false):=jq (HF.out λh=>CU (by rw[h nV.out (by rw[fj.out];exact ht)];rfl));have aVJ:0<x.sigs.length:=by omega
      have b7K:(0:Int)<(x.sigs.length:Int):=by omega
      clear CU;rcases ht with rfl | rfl
      all_goals
       go_wp2_with fail;go_ret;exact⟨aj HX.out.symm,pK.out _⟩
    ·have HX:=jq (HN.out (λ_ h=>absurd (by rw[fj.out] at h;exact h) ht));have t1:(ty == 2)=false:=by simp;omega
     have t2:(ty == 1)=false:=by simp;omega
     clear ht;go_wp2_with fail;go_roundw
     case rel=>exact⟨k+1,by omega,by go_num,jq (cu.out _),jq HX.out⟩
     ·simp[intOf]<;>omega
  ·go_wp2_with fail;go_ret;refine⟨aj ?_,aD.out⟩;rw[<-HR.out];exact (Np.gY λi x b hx hb=>HA.out i x b (by have:=(cQ.1 hx).1;omega) hx hb).symm
theorem aAY(a:ByteArray)(v:Value)(A2:Option Addr)(n2 c2:Nat)(l:List Np.Signed)(w:World)(hd:SlR az 5 w w.heap.size v l) :
 Calls prog 201 #[.agg #[.string a,v,.slice A2 n2 c2]] w (aCX w.heap.size w (.bool (Np.yes (∀ x∈l,Np.gB a.data.toList x.sigs)))):=by
 obtain⟨r,hr⟩:=aaK (Np.yes (∀ x∈l,Np.gB a.data.toList x.sigs));rw[hr];have HR:=jq hr;have HD:=jq hd;obtain⟨A,c,rfl,aR,cP⟩:=ba hd;clear hr hd;have HW:=blW w;go_enter func201,ntmps201;go_wp2_with fail;obtain⟨w1,ah⟩:=aaK (w.alloc (.cells #[.string a,.slice A l.length c,.slice A2 n2 c2] 217));have c2':w1.cell? ⟨w.heap.size,0,none⟩=some (.string a):=by rw[<-ah];simp[go_sem]
 have eH:w.heap.size<w1.heap.size:=by rw[<-ah];simp
 have ay:Hid (Below w.heap.size w w1):=jq (by rw[<-ah];exact HW.out _);rw[ah];clear ah;go_loopw [10] (λi wr=>∃ k:Nat,k<=l.length/\i = .int .i64 k/\Hid (Below w1.heap.size w1 wr)/\Hid (∀ j x,j<k->l[j]?=some x->Np.gB a.data.toList x.sigs)) (λi _=>l.length - (intOf i).toNat)
 case atStart=>exact⟨0,jQ _,rfl,jq (vQ _ _),jq (λj x hj=>by omega)⟩
 case round=>
  obtain⟨k,hk,rfl,HB,HA⟩:=hrel;have aB:=HB.out.size;have aD:=aaZ ay HB.out;by_cases ag:k<l.length
  ·obtain⟨x,aF⟩:∃ x,l[k]?=some x:=⟨_,aQ ag⟩;obtain⟨b,o,c',sn,dv,sv,hA,cX,_,aP,fK,aV,aZ,e0,e1,e2,e3,e4⟩:=dN (HD.out.keep ax aD.out) aF
   cases hA
   have HN:Hid (Np.gB a.data.toList x.sigs->∀ j x,j<k+1->l[j]?=some x->Np.gB a.data.toList x.sigs):=jq (λh j y hj hy=>by
    by_cases e:j=k
    ·subst e;rw[aF] at hy;cases hy;exact h
    ·exact HA.out j y (by omega) hy)
   have HF:Hid (¬ Np.gB a.data.toList x.sigs->r=false):=jq (λh=>by
    rw[<-HR.out];exact Np.eX λq=>h (q x (gQ aF)))
   clear aF;obtain⟨Ad,cd,rfl,_,_⟩:=ba aV;obtain⟨As,cs,rfl,_,_⟩:=ba aZ;have hcell:wr.cell? ⟨w.heap.size,0,none⟩=some (.string a):=aaQ HB.out c2';have pV:=jq (aZ.more el (show w.heap.size<=wr.heap.size by omega));have gO:w.heap.size<wr.heap.size:=by omega
   have av:b<wr.heap.size:=by omega
   have cu:Hid (∀ o,Below w1.heap.size w1 (wr.alloc o)):=jq (λo=>HB.out.alloc HB.out.size _);have pK:Hid (∀ o,Below w.heap.size w (wr.alloc o)):=jq (λo=>aD.out.alloc (by omega) _);have df:=kNN k;have dg:(k:Int)<(l.length:Int):=by omega
   have bU:=jq aP;clear aP aV aZ;go_wp2_with fail;refine (a2Y a _ x.sigs _ (pV.out.later dG el (blAl))).mono ?_;rintro e w2 ⟨rfl,hb⟩;have am:Hid (Below wr.heap.size wr w2):=jq ((blAl).trans (hb.mono (by simp)));clear hb
   cases hf:Np.yes (Np.gB a.data.toList x.sigs) with
   | true=>
    have HX:=jq (HN.out (Np.kw.1 hf));clear hf;go_wp2_with fail;go_roundw
    case rel=>exact⟨k+1,by omega,by go_num,jq (HB.out.trans (am.out.mono HB.out.size)),jq HX.out⟩
    ·simp[intOf]<;>omega
   | false=>
    have HX:=jq (HF.out λh=>by rw[Np.gY h] at hf;cases hf);clear hf;go_wp2_with fail;go_ret;exact⟨aj HX.out.symm,aD.out.trans (am.out.abQ)⟩
  ·go_wp2_with fail;go_ret;refine⟨aj ?_,aD.out⟩;rw[<-HR.out];refine (Np.gY λx hx=>?_).symm;obtain⟨j,hj,rfl⟩:=nQ.1 hx;exact HA.out j _ (by omega) (aQ hj)
def jx(base:Nat)(w:World)(v:Value)(ps:List (List UInt8)):Prop:=w.ownsRow base 9 1 v ps.length (ps.map bB)
theorem jx.form{base:Nat}{w:World}{v:Value}{ps:List (List UInt8)}(h:jx base w v ps):∃ A c,v = .slice A ps.length c:=sF h
theorem jx.alloc{base:Nat}{w:World}{v:Value}{ps:List (List UInt8)}(h:jx base w v ps)(o:Obj):jx base (w.alloc o) v ps:=World.ownsRow.alloc h o
theorem jx.keep{base:Nat}{w w':World}{v:Value}{ps:List (List UInt8)}(h:jx base w v ps)(hb:Below w.heap.size w w'):jx base w' v ps:=ra h (λg hg=>hb.block g (h.lt g hg).2)
theorem jx.slr{base:Nat}{w:World}{v:Value}{ps:List (List UInt8)}(h:jx base w v ps)(hl:ps.length<=140737488355328)(aB:∀ x∈ps,x.length<=140737488355328):SlR RTx 1 w w.heap.size v ps:=by
 refine UX (sz:=1) (e:=9) (base:=base) (λx=>[bB x]) (λ_ _=>rfl) ?_ hl (λx hx=>⟨⟨x.toArray⟩,by simp,aB x hx,rfl⟩)
 have:w.ownsRow base 9 1 v ps.length (ps.map bB):=h
 simpa [TZ] using this
section
variable {ops:Array Oper} {rest:List Oper} {o:Oper} {a:Act} {Q:Exit->Act->World->Prop}
theorem MG(w:World)(kf:o.guard=none)(s x:Operand)(ho:o.op = .call { callee:=.builtin .append,args:=#[s,x],argTypes:=#[102,102] })
 (base:Nat) (v:Value) (ps:List (List UInt8)) (hs:a.eval s=v) (hown:jx base w v ps) (blk:Nat) (y:List UInt8) (hx:a.eval x = .slice (some ⟨blk,0,none⟩) 1 1) (hc:w.cell? ⟨blk,0,none⟩=some (bB y)) (hlen:ps.length<=100000) (ji:base<=w.heap.size)
 (h:∀ v' w',jx base w' v' (ps ++ [y])->Below base w w'->wpList prog ops Q rest (a.put o.dst v') w'):wpList prog ops Q (o::rest) a w:=by
 obtain⟨i0,hi,eu,bG,bL⟩:=info_parts Tryz.infoStr;refine wpList_append_own_at w kf s x 102 ho base 9 i0 (.string ⟨#[]⟩) 1 16 underlying102 hi eu bG bL rfl (by decide) v ps.length (ps.map bB) hs hown ⟨blk,0,none⟩ 1 1 [bB y] hx rfl ?_ (by simp[Value.oneCell']) (by unfold maxLen;omega) (by omega) ji ?_
 ·intro j u hj
  cases j with
  | zero=>simp at hj;subst hj;simpa [Addr.add] using hc
  | succ j=>simp at hj
 ·intro v' w' ho' hg _ _;refine h v' w' ?_ ((vQ _ _).grown hg ji (λk hk=>(hown.lt k hk).1));have e:(ps ++ [y]).length=ps.length+1:=by simp
  unfold jx;rw[e,List.map_append];exact ho'
end
theorem bnX(a:ByteArray)(v:Value)(l:List Np.Signed)(dJ:l.length<=20000)(w:World)(hd:SlR az 5 w w.heap.size v l) :
 Calls prog 252 #[.agg #[.string a,v]] w (yB RTx 1 w (Np.dy a.data.toList l)):=by
 have HD:=jq hd;obtain⟨A,c,rfl,aR,cP⟩:=ba hd;clear hd;have mw:Hid (∀ k,(Np.dy a.data.toList (l.take k)).length<=20000):=jq (λk=>by
  unfold Np.dy;rw[List.length_map];exact yQ (List.length_filter_le _ _) (by rw[List.length_take];omega))
 have HW:=blW w;have gN:Hid (∀ x∈Np.dy a.data.toList l,x.length<=140737488355328):=jq (λx hx=>by
  unfold Np.dy at hx;obtain⟨y,hy,rfl⟩:=List.mem_map.1 hx;obtain⟨j,hj,rfl⟩:=nQ.1 (List.mem_filter.1 hy).1;obtain⟨_,_,_,s,_,_,_,_,_,hs,hz,_⟩:=dN HD.out (aQ hj);rw[<-hs,bO];exact hz)
 go_enter func252,ntmps252;go_wp2_with fail;obtain⟨w1,ah⟩:=aaK (w.alloc (.cells #[.string a,.slice A l.length c] 66));have c0:w1.cell? ⟨w.heap.size,0,none⟩=some (.string a):=by rw[<-ah];simp[go_sem]
 have c1:w1.cell? ⟨w.heap.size,1,none⟩=some (.slice A l.length c):=by rw[<-ah];simp[go_sem]
 have bG:w1.heap.size=w.heap.size+1:=by rw[<-ah];simp
 have ay:Hid (Below w.heap.size w w1):=jq (by rw[<-ah];exact HW.out _);rw[ah];clear ah;go_loopw [3,4] (λvo i wr=>∃ (k:Nat),k<=l.length/\i = .int .i64 k/\Hid (Below w1.heap.size w1 wr)/\Hid (jx w1.heap.size wr vo (Np.dy a.data.toList (l.take k)))) (λ_ i _=>l.length - (intOf i).toNat)
 case atStart=>exact⟨0,jQ _,rfl,jq (vQ _ _),jq ⟨by simp,.inl ⟨rfl,rfl⟩⟩⟩
 case round=>
  obtain⟨k,hk,rfl,HB,HO⟩:=hrel;have aB:=HB.out.size;have d0:wr.cell? ⟨w.heap.size,0,none⟩=some (.string a):=aaQ HB.out c0;have d1:wr.cell? ⟨w.heap.size,1,none⟩=some (.slice A l.length c):=aaQ HB.out c1;have aD:=aaZ ay HB.out;have gO:w.heap.size<wr.heap.size:=by omega
  by_cases ag:k<l.length
  ·obtain⟨x,aF⟩:∃ x,l[k]?=some x:=⟨_,aQ ag⟩;obtain⟨b,o,c',sn,dv,sv,hA,cX,_,aP,fK,aV,aZ,f0,f1,f2,f3,f4⟩:=dN (HD.out.keep ax aD.out) aF
   cases hA
   obtain⟨Ad,cd,rfl,_,_⟩:=ba aV;have HT:Hid (Np.dy a.data.toList (l.take (k+1))=if x.set.type=2/\x.set.name≠a.data.toList then Np.dy a.data.toList (l.take k) ++ [x.set.name] else Np.dy a.data.toList (l.take k)):=jq (by
    obtain⟨hl,he⟩:=cQ.1 aF;rw[fQ hl,Np.arQ,he])
   have bU:=jq aP;have df:(0:Int)<=(k:Int):=by omega
   have dg:(k:Int)<(l.length:Int):=by omega
   have av:b<wr.heap.size:=by omega
   have cu:Hid (∀ o,Below w1.heap.size w1 (wr.alloc o)):=jq (λo=>HB.out.alloc HB.out.size _);have gy:=jq (mw.out k);clear aF aP aV aZ f4;by_cases h2:x.set.type=2
   ·have ae:(x.set.type == 2)=true:=by simpa using h2
    by_cases hn:x.set.name=a.data.toList
    ·have eU:(!sn.toList == a.toList)=false:=by rw[dQ,dQ,bU.out,hn];simp
     have fz:=jq (HT.out.trans (Qc λh=>h.2 hn));clear h2 hn;go_wp2_with fail;go_roundw
     case rel=>exact⟨k+1,by omega,by go_num,jq (cu.out _),jq (by rw[fz.out];exact HO.out.alloc _)⟩
     ·simp[intOf]<;>omega
    ·have eU:(!sn.toList == a.toList)=true:=by rw[dQ,dQ,bU.out];simpa using hn
     have fz:=jq (HT.out.trans (QbQ ⟨h2,hn⟩));clear h2 hn;go_wp2_with (at_builtin;refine MG _ rfl _ _ rfl w1.heap.size _ (Np.dy a.data.toList (l.take k)) rfl ((HO.out.alloc _).alloc _) (wr.heap.size+1) sn.data.toList (by simp[go_sem]) (by simp[go_sem]) (by have:=gy.out;omega) (by simp;omega) ?_;intro v5 w5 ve aO;have H5:=jq (And.intro ve aO);clear ve aO);go_roundw
     case rel=>exact⟨k+1,by omega,by go_num,jq (((cu.out _).alloc (by simp;omega) _).trans H5.out.2),jq (by rw[fz.out,<-bU.out];exact H5.out.1)⟩
     ·simp[intOf]<;>omega
   ·have ae:(x.set.type == 2)=false:=by simpa using h2
    have fz:=jq (HT.out.trans (Qc λh=>h2 h.1));clear h2;go_wp2_with fail;go_roundw
    case rel=>exact⟨k+1,by omega,by go_num,jq (cu.out _),jq (by rw[fz.out];exact HO.out.alloc _)⟩
    ·simp[intOf]<;>omega
  ·have HE:Hid (l.take k=l):=jq (kQ (by omega));go_wp2_with fail;go_ret;refine⟨_,rfl,?_,aD.out⟩;have h1:=HO.out;have h2:=mw.out k;rw[HE.out] at h1 h2;exact h1.slr (by omega) gN.out
theorem R8(l:List (List UInt8)):∀ k,(Np.eV (l.take k)).length<=k:=by
 intro k;have key:∀ (r o:List (List UInt8)),(r.foldl Np.pi o).length<=o.length+r.length:=by
  intro r
  induction r with
  | nil=>intro o;simp
  | cons c r ih=>
   intro o;have h1:(Np.pi o c).length<=o.length+1:=by
    unfold Np.pi
    cases o.getLast? with
    | none=>simp
    | some q=>dsimp only;split<;>simp
   have:=ih (Np.pi o c)
   rw[List.foldl_cons,List.length_cons];omega
 have:=key (l.take k) []
 rw[List.length_take] at this;unfold Np.eV;simp at this;omega
theorem KB(l:List (List UInt8)):∀ x∈Np.eV l,x∈l:=by
 have key:∀ (r o:List (List UInt8)),∀ x∈r.foldl Np.pi o,x∈o\/x∈r:=by
  intro r
  induction r with
  | nil=>intro o x hx;exact .inl hx
  | cons c r ih=>
   intro o x hx;rcases ih _ x hx with h | h
   ·unfold Np.pi at h
    cases hg:o.getLast? with
    | none=>rw[hg] at h;simp at h;exact .inr (by simp[h])
    | some q=>
     rw[hg] at h;dsimp only at h;split at h
     ·exact .inl h
     ·rcases List.mem_append.1 h with h | h
      ·exact .inl h
      ·simp at h;exact .inr (by simp[h])
   ·exact .inr (mQ _ h)
 intro x hx;rcases key l [] x hx with h | h
 ·cases h
 ·exact h
theorem yw{x:List UInt8}(h:Np.ai x=true):x.length<=60:=by
 unfold Np.ai at h;split at h
 ·rename_i e;rw[e];decide
 ·split at h
  ·cases h
  ·omega
theorem boJ(a:ByteArray)(v:Value)(l:List Np.Signed)(dJ:l.length<=20000)(hv:∀ x∈l,Np.ai x.set.name=true)(w:World)(hd:SlR az 5 w w.heap.size v l) :
 Calls prog 193 #[.agg #[.string a,v]] w (yB RTx 1 w (Np.eV (Np.dy a.data.toList l))):=by
 have HD:=jq hd;obtain⟨A,c,rfl,aR,cP⟩:=ba hd;have HW:=blW w;have rz:Hid (∀ x∈Np.dy a.data.toList l,Np.ai x=true):=jq (λx hx=>by
  unfold Np.dy at hx;obtain⟨y,hy,rfl⟩:=List.mem_map.1 hx;exact hv y (List.mem_filter.1 hy).1)
 clear hd hv;go_enter func193,ntmps193;go_wp2_with fail;refine (bnX a _ l dJ _ (HD.out.later ax aK (HW.out _))).mono ?_;rintro e w1 ⟨vc,rfl,Lk,av⟩;have bG:w.heap.size<w1.heap.size:=by have:=av.size;simp at this;omega
 have ay:=jq ((HW.out _).trans (av.mono (by simp)));clear av;have ke:(Np.dy a.data.toList l).length<=20000:=by
  unfold Np.dy;rw[List.length_map];exact yQ (List.length_filter_le _ _) dJ
 generalize Np.dy a.data.toList l=cs at *;obtain⟨Ac,cc,rfl,uP,b2Q⟩:=ba Lk;have HC:=jq Lk;clear Lk;go_wp2_with fail;go_loopw [4,5] (λvo i wr=>∃ (k:Nat),k<=cs.length/\i = .int .i64 k/\Hid (Below w1.heap.size w1 wr)/\Hid (jx w1.heap.size wr vo (Np.eV (cs.take k)))) (λ_ i _=>cs.length - (intOf i).toNat)
 case atStart=>exact⟨0,jQ _,rfl,jq (vQ _ _),jq ⟨by simp,.inl ⟨rfl,rfl⟩⟩⟩
 case round=>
  obtain⟨k,hk,rfl,HB,HO⟩:=hrel;have aB:=HB.out.size;have aD:=aaZ ay HB.out;have uA:Hid (∀ x∈Np.eV (cs.take k),x.length<=140737488355328):=jq (λx hx=>by
   have:=yw (rz.out x (List.mem_of_mem_take (KB _ x hx)))
   omega)
  have gy:Hid ((Np.eV (cs.take k)).length<=20000):=jq (by have:=R8 cs k;omega);by_cases ag:k<cs.length
  ·obtain⟨x,aF⟩:∃ x,cs[k]?=some x:=⟨_,aQ ag⟩;obtain⟨b,o,sn,rfl,cX,aP,fK,f0⟩:=uc (HC.out.keep jp HB.out) aF;have HVX:Hid (Np.ai x=true):=jq (rz.out x (gQ aF));have HT:Hid (Np.eV (cs.take (k+1))=Np.pi (Np.eV (cs.take k)) x):=jq (by
    obtain⟨hl,he⟩:=cQ.1 aF;rw[fQ hl,Np.R5,he])
   have bU:=jq aP;have df:(0:Int)<=(k:Int):=by omega
   have dg:(k:Int)<(cs.length:Int):=by omega
   have av:b<wr.heap.size:=by omega
   have qC:∀ (g:ci wr) (p:Addr),p.block<wr.heap.size->g.w.cell? p=wr.cell? p:=λg p h=>g.cell p h;have Yd:=jq (HO.out.slr (by have:=gy.out;omega) uA.out);have Yf:Hid (∀ y∈Np.eV (cs.take k),Np.ai y=true):=jq (λy hy=>rz.out y (List.mem_of_mem_take (KB _ y hy)));clear aF aP;generalize Np.eV (cs.take k)=out at *;obtain⟨Ao,co,rfl⟩:=HO.out.form;by_cases h0:out.length=0
   ·obtain rfl:out = []:=rQ h0;have fz:Hid (Np.eV (cs.take (k+1)) = [] ++ [x]):=jq (by rw[HT.out];rfl);clear h0;go_wp2_with fail;refine adK ?_
    repeat (go_big_quiet_step (fail))
    refine wpQuiet_nil ?_;rintro _ ⟨g,rfl⟩;have HG:=jq g.below;have ox:=g.size;have fg:g.w.cell? ⟨b,o+k,none⟩=some (.string sn):=(qC g _ av).trans f0;have yW:=jq (HO.out.keep g.below);generalize g.w=w2 at *;go_wp2_with (at_builtin;refine MG _ rfl _ _ rfl w1.heap.size _ [] rfl (yW.out.alloc _) w2.heap.size sn.data.toList (by simp[go_sem]) (by simp[go_sem]) (by simp) (by simp;omega) ?_;intro v5 w5 ve aO;have H5:=jq (And.intro ve aO);clear ve aO);go_roundw
    case rel=>exact⟨k+1,by omega,by go_num,jq (((HB.out.trans (HG.out.abQ)).alloc (by omega) _).trans H5.out.2),jq (by rw[fz.out,<-bU.out];exact H5.out.1)⟩
    ·simp[intOf]<;>omega
   ·obtain⟨n,hn⟩:∃ n,out.length=n+1:=⟨out.length - 1,by omega⟩;obtain⟨q,hq⟩:∃ q,out[n]?=some q:=⟨_,aQ (by omega)⟩;obtain⟨b2,o2,sq,rfl,zy,jm,caZ,g0⟩:=uc Yd.out hq;have u6:out.getLast?=some q:=by rw[List.getLast?_eq_getElem?,hn];exact hq
    have fz:Hid (Np.eV (cs.take (k+1))=if Np.aW x q=true then out else out ++ [x]):=jq (by rw[HT.out,Np.pi,u6]);have Oy:Hid (Np.ai q=true):=jq (Yf.out q (gQ hq));obtain⟨bu,xr⟩:=aaK (Np.aW x q);have bw:∀ g:ci wr,Calls prog 21 #[.string sn,.string sq] g.w λe w'=>e = .returned (.bool bu)/\Below g.w.heap.size g.w w':=λg=>by
     have vg:q≠[]:=λe=>by have:=Oy.out;rw[e] at this;exact absurd this (by decide)
     rw[<-xr,<-Np.py vg,<-bU.out,<-jm];have s1:=yw HVX.out;have s2:=yw Oy.out;rw[<-bU.out,bO] at s1;rw[<-jm,bO] at s2;exact DH sn sq (by omega) (by omega) _
    have nl:=jq bw;have rn:=jq xr;obtain⟨N,hN⟩:=aaK out.length;have HN:=jq hN;have KN:((N:Int) == 0)=false:=by rw[beq_eq_false_iff_ne];omega
    have ah:IntKind.i64.wrap ((N:Int) - 1)=(n:Int):=by rw[IntWalk.i64_in _ (by have:=gy.out;omega)];omega
    have iO:(0:Int)<=(n:Int):=by omega
    have mP:(n:Int)<(N:Int):=by omega
    have NT:Hid (jx w1.heap.size wr (.slice (some ⟨b2,o2,none⟩) N co) out):=jq (by rw[<-hN];exact HO.out);rw[hN];clear hn hq jm u6 bw xr h0 hN
    cases bu with
    | true=>
     have gL:=jq (fz.out.trans (QbQ rn.out));go_wp2_with fail;refine adK ?_
     repeat (go_big_quiet_step ((go_at_call 21;exact Calls.grow_of (nl.out _))))
     refine wpQuiet_nil ?_;rintro _ ⟨g,rfl⟩;go_wp2_with fail;go_roundw
     case rel=>exact⟨k+1,by omega,by go_num,aaZ HB g.below,jq (by rw[gL.out];exact NT.out.keep g.below)⟩
     ·simp[intOf]<;>omega
    | false=>
     have gL:=jq (fz.out.trans (Qc (by rw[rn.out];simp)));go_wp2_with fail;refine adK ?_
     repeat (go_big_quiet_step ((go_at_call 21;exact Calls.grow_of (nl.out _))))
     refine wpQuiet_nil ?_;rintro _ ⟨g,rfl⟩;have HG:=jq g.below;have ox:=g.size;have fg:g.w.cell? ⟨b,o+k,none⟩=some (.string sn):=(qC g _ av).trans f0;have yW:=jq (NT.out.keep g.below);clear qC;generalize g.w=w2 at *;go_wp2_with (at_builtin;refine MG _ rfl _ _ rfl w1.heap.size _ out rfl (yW.out.alloc _) w2.heap.size sn.data.toList (by simp[go_sem]) (by simp[go_sem]) (by have:=gy.out;omega) (by simp;omega) ?_;intro v5 w5 ve aO;have H5:=jq (And.intro ve aO);clear ve aO);go_roundw
     case rel=>exact⟨k+1,by omega,by go_num,jq (((HB.out.trans (HG.out.abQ)).alloc (by omega) _).trans H5.out.2),jq (by rw[gL.out,<-bU.out];exact H5.out.1)⟩
     ·simp[intOf]<;>omega
  ·have HE:Hid (cs.take k=cs):=jq (kQ (by omega));go_wp2_with fail;go_ret;refine⟨_,rfl,?_,aD.out⟩;have h1:=HO.out;have h2:=gy.out;have h3:=uA.out;rw[HE.out] at h1 h2 h3;exact h1.slr (by omega) h3
theorem Qe{a b c:List UInt8}(h1:Np.br a b<=0)(h2:Np.br b c<=0):Np.br a c<=0:=by
 by_cases e1:Np.br a b=0
 ·rw[Np.oN.zero _ _ e1];exact h2
 ·by_cases e2:Np.br b c=0
  ·rw[<-Np.oN.zero _ _ e2];exact h1
  ·exact Int.le_of_lt (Np.oN.trans a b c (by omega) (by omega))
theorem aoZ{a b c:List UInt8}(h1:0<Np.br a c)(h2:Np.br a b<0):0<Np.br b c:=by
 have h3:=Np.oN.anti' _ _ h1;have h4:=Np.oN.trans _ _ _ h3 h2;exact Np.oN.anti _ _ h4
theorem GQ{bs:List (List UInt8)}{n i:Nat}(hi:i<n):bs++List.replicate (n - i) []=bs ++ [[]]++List.replicate (n - (i+1)) []:=by
 rw[show n - i=(n - (i+1))+1 by omega,List.replicate_succ,List.append_assoc];rfl
theorem Uz{bs:List (List UInt8)}{n i:Nat}{b:List UInt8}(hb:bs.length=i)(hi:i<n):(bs++List.replicate (n - i) []).set i b=bs ++ [b]++List.replicate (n - (i+1)) []:=by
 rw[show n - i=(n - (i+1))+1 by omega,List.replicate_succ,List.set_append_right _ _ (by omega),hb,Nat.sub_self,List.set_cons_zero,List.append_assoc];rfl
def G3(n0 Bs:Nat)(w1:World)(z:Np.Zone)(H:List (List UInt8))(vk vi:Value)(wr:World):Prop:=
 ∃ (i k:Nat) (bs:List (List UInt8)),i<=z.sets.length/\k<=H.length/\vi = .int .i64 i/\vk = .int .i64 k/\bs.length=i/\Hid (Below Bs w1 wr)/\Hid (fP wr Bs (bs++List.replicate (z.sets.length - i) []))/\Bs<wr.heap.size/\n0<=Bs/\
   Hid (∀ (j:Nat) (x:Np.Signed) (b:List UInt8),z.sets[j]?=some x->bs[j]?=some b->Np.jv (Np.dz z) x.set.name b)/\Hid (∀ (j:Nat) (y:List UInt8) (x:Np.Signed),j<k->H[j]?=some y->z.sets[i]?=some x->Np.br y x.set.name<=0)
theorem Un(a:ByteArray)(v:Value)(l:List Np.Signed)(dJ:l.length<=20000)(ho:Np.InOrder ⟨a.data.toList,l⟩)(hv:∀ x∈l,Np.ai x.set.name=true)(w:World)(hd:SlR az 5 w w.heap.size v l) :
 Calls prog 135 #[.agg #[.string a,v]] w (yB RTx 1 w (Np.eT ⟨a.data.toList,l⟩)):=by
 have HD:=jq hd;obtain⟨A,c,rfl,aR,cP⟩:=ba hd;have HW:=blW w;have HO:=jq ho;have HV:=jq hv;have BL:Hid (∀ x∈Np.eV (Np.dy a.data.toList l),Np.ai x=true):=jq (λx hx=>by
  have hx:=KB _ x hx;unfold Np.dy at hx;obtain⟨y,hy,rfl⟩:=List.mem_map.1 hx;exact hv y (List.mem_filter.1 hy).1)
 have Ou:Hid (∀ (n:List UInt8) (k:Nat),k<=(Np.eV (Np.dy a.data.toList l)).length->(∀ j x,j<k->(Np.eV (Np.dy a.data.toList l))[j]?=some x->Np.br x n<=0)->(∀ j x,k<=j->(Np.eV (Np.dy a.data.toList l))[j]?=some x->0<Np.br x n)->Np.jv (Np.dz ⟨a.data.toList,l⟩) n (Np.jL (Np.eV (Np.dy a.data.toList l)) k n)):=jq (λn k hk h1 h2=>Np.bnK ho hk h1 h2);have Y4:Hid ((Np.eV (Np.dy a.data.toList l)).Pairwise λa b=>Np.br a b<0):=jq (Np.R6 ho).1.sorted;have hhl:(Np.eV (Np.dy a.data.toList l)).length<=20000:=by
  have h1:=R8 (Np.dy a.data.toList l) (Np.dy a.data.toList l).length;rw[List.take_length] at h1;have h2:(Np.dy a.data.toList l).length<=l.length:=by
   unfold Np.dy;rw[List.length_map];exact List.length_filter_le _ _
  omega
 clear hd ho;go_enter func135,ntmps135;go_wp2_with fail;refine (boJ a _ l dJ hv _ (HD.out.later ax aK (HW.out _))).mono ?_;rintro e w1 ⟨vh,rfl,Ll,av⟩;have bG:w.heap.size<w1.heap.size:=by have:=av.size;simp at this;omega
 have c1:w1.cell? ⟨w.heap.size,1,none⟩=some (.slice A l.length c):=by rw[av.cell (by simp)];go_simp
 have ay:=jq ((HW.out _).trans (av.mono (by simp)));clear av hv;generalize Np.eV (Np.dy a.data.toList l)=H at *;obtain⟨Ah,ch,rfl,hch,b3Y⟩:=ba Ll;have HH:=jq Ll;clear Ll;have fd:=LL l.length dJ;have HZ:Hid (∀ j,j<l.length->(madeCells #[Value.string ⟨#[]⟩] l.length)[j]?=some (.string ⟨#[]⟩)):=jq (λj hj=>LK _ _ hj);generalize madeCells #[Value.string ⟨#[]⟩] l.length=Z at fd HZ;go_wp2_with fail;obtain⟨Bs,qj⟩:=aaK w1.heap.size;obtain⟨w2,ar⟩:=aaK (w1.alloc (.cells Z 9));have ae:Below Bs w1 w2:=by rw[<-ar,<-qj];exact blAl
 have bL:Bs<w2.heap.size:=by rw[<-ar];simp;omega
 have fO:Hid (fP w2 Bs ([]++List.replicate (l.length - 0) [])):=jq (λj x hx=>by
  rw[List.nil_append,Nat.sub_zero,List.getElem?_replicate] at hx;split at hx
  ·rename_i hj
   cases hx
   refine⟨⟨#[]⟩,rfl,by decide,?_,?_⟩
   ·rw[<-ar,<-qj];simp[go_sem];exact HZ.out j hj
   ·rw[<-ar,<-qj];simp[go_sem]
  ·cases hx)
 have am:=jq ae;rw[ar,qj];clear ar ae fd HZ;go_loopw [5,6] (λvk vi wr=>G3 w.heap.size Bs w1 ⟨a.data.toList,l⟩ H vk vi wr) (λ_ i _=>l.length - (intOf i).toNat)
 case atStart=>exact⟨0,0,[],jQ _,jQ _,rfl,rfl,rfl,am,fO,bL,by omega,jq (λj x b _ hb=>by simp at hb),jq (λj y x hj=>by omega)⟩
 case round=>
  obtain⟨i,k,bs,hi,hk,rfl,rfl,cO,HB,HR,xd,Ss,HT,HK⟩:=hrel;have hi:i<=l.length:=hi;have d1:wr.cell? ⟨w.heap.size,1,none⟩=some (.slice A l.length c):=aaQ HB.out c1;have aD:Hid (Below w.heap.size w wr):=aaZ ay HB.out;have gO:w.heap.size<wr.heap.size:=by omega
  by_cases ag:i<l.length
  ·obtain⟨x,aF⟩:∃ x,l[i]?=some x:=⟨_,aQ ag⟩;obtain⟨b,o,c',sn,dv,sv,hA,cX,_,aP,fK,aV,aZ,f0,f1,f2,f3,f4⟩:=dN (HD.out.keep ax aD.out) aF
   cases hA
   have HX:=jq aF;have bU:=jq aP;have aYJ:sn.size<=60:=by have:=yw (HV.out x (gQ aF));rw[<-aP,bO] at this;exact this
   have iO:(0:Int)<=(i:Int):=by omega
   have mP:(i:Int)<(l.length:Int):=by omega
   have av:b<wr.heap.size:=by omega
   have vY:Hid (∀ (j:Nat) (y:List UInt8),j<k->H[j]?=some y->Np.br y sn.data.toList<=0):=jq (λj y hj hy=>by rw[aP];exact HK.out j y x hj hy aF);clear aF aP aV aZ f1 f2 f3 f4 HK;go_wp2_with fail;obtain⟨wo,rfl⟩:=aaX wr;go_loopw [5] (λvk wr=>∃ k:Nat,k<=H.length/\vk = .int .i64 k/\Hid (Below wo.heap.size wo wr)/\Hid (∀ (j:Nat) (y:List UInt8),j<k->H[j]?=some y->Np.br y sn.data.toList<=0)) (λk _=>H.length - (intOf k).toNat)
   case atStart=>exact⟨k,hk,rfl,jq (vQ _ _),vY⟩
   case round=>
    obtain⟨k,hk,rfl,vV,Bp⟩:=hrel;have hzi:=vV.out.size;have Wj:Hid (SlR RTx 1 wr w1.heap.size (.slice Ah H.length ch) H):=jq ((HH.out.keep jp (HB.out.abQ)).keep jp (vV.out.abQ));by_cases fZ:k<H.length
    ·obtain⟨y,FZ⟩:∃ y,H[k]?=some y:=⟨_,aQ fZ⟩;obtain⟨b2,o2,sy,rfl,zy,nL,caJ,g0⟩:=uc Wj.out FZ;have caQ:sy.size<=60:=by have:=yw (BL.out y (gQ FZ));rw[<-nL,bO] at this;exact this
     have HY:=jq FZ;have I3:=jq nL;have df:=kNN k;have dg:(k:Int)<(H.length:Int):=by omega
     clear FZ nL;go_wp2_with fail;refine (Up sy sn (by omega) (by omega) _).mono ?_;rintro e w6 ⟨rfl,bE⟩;have bH:=jq bE;have px:=bE.size;clear bE;by_cases kZ:Np.br sy.data.toList sn.data.toList<=0
     ·have HN:Hid (∀ (j:Nat) (y:List UInt8),j<k+1->H[j]?=some y->Np.br y sn.data.toList<=0):=jq (λj z hj hz=>by
       by_cases e:j=k
       ·subst e;rw[HY.out] at hz;cases hz;rw[<-I3.out];exact kZ
       ·exact Bp.out j z (by omega) hz)
      go_wp2_with fail;go_roundw
      case rel=>exact⟨k+1,by omega,by go_num,jq (vV.out.trans (bH.out.mono vV.out.size)),jq HN.out⟩
      ·simp[intOf]<;>omega
     ·have Ij:Hid (∀ (j:Nat) (y:List UInt8),k<=j->H[j]?=some y->0<Np.br y sn.data.toList):=jq (λj z hj hz=>by
       by_cases e:j=k
       ·subst e;rw[HY.out] at hz;cases hz;rw[<-I3.out];omega
       ·obtain⟨h1,e1⟩:=cQ.1 HY.out;obtain⟨h2,e2⟩:=cQ.1 hz
        have:=List.pairwise_iff_getElem.1 Y4.out k j h1 h2 (by omega)
        rw[e1,e2] at this;exact aoZ (by rw[<-I3.out];omega) this)
      have pO:Hid (∀ W',Below Bs w1 W'->Bs<W'.heap.size->fP W' Bs (bs ++ [Np.jL H k sn.data.toList]++List.replicate (l.length - (i+1)) [])->G3 w.heap.size Bs w1 ⟨a.data.toList,l⟩ H (.int .i64 k) (.int .i64 (i+1)) W'):=jq (λW' h1 h2 h3=>by
       refine⟨i+1,k,bs ++ [Np.jL H k sn.data.toList],by show i+1<=l.length;omega,hk,by go_num,rfl,by simp[cO],jq h1,jq h3,h2,Ss,jq λj x' b' hx' hb'=>?_,jq λj y x' hj hy hx'=>?_⟩
       ·have hx':l[j]?=some x':=hx';by_cases e:j<i
        ·rw[List.getElem?_append_left (by omega)] at hb';exact HT.out j x' b' hx' hb'
        ·have CP:j=i:=by have:=(cQ.1 hb').1;simp at this;omega
         subst CP;rw[HX.out] at hx';cases hx';rw[oQ (by omega),cO,Nat.sub_self] at hb'
         cases hb'
         rw[<-bU.out];exact Ou.out _ k hk Bp.out Ij.out
       ·obtain⟨q1,e1⟩:=cQ.1 HX.out;have hx':l[i+1]?=some x':=hx';obtain⟨q2,e2⟩:=cQ.1 hx';have h4:=HO.out.names (show i<i+1 by omega) q2;dsimp only at h4;rw[e1,e2,<-bU.out] at h4;exact Qe (Bp.out j y hj hy) h4)
      have s6:=jq (vV.out.trans (bH.out.mono vV.out.size));have AQ:Hid (Below Bs w1 w6):=aaZ HB s6.out;have pf:Bs<w6.heap.size:=by have:=s6.out.size;omega
      have mA:Hid (fP w6 Bs (bs++List.replicate (l.length - i) [])):=jq (HR.out.keep s6.out (by omega));by_cases ik:k=0
      ·have ki:decide ((0:Int)<(k:Int))=false:=by simp;omega
       have iP:decide (0<k)=false:=by simp;omega
       have sX:Hid (Np.jL H k sn.data.toList = []):=jq (by unfold Np.jL;rw[Qc (by omega)]);clear ik;go_wp2_with fail;go_roundw
       case rel=>exact pO.out _ AQ.out pf (by rw[sX.out,<-GQ ag];exact mA.out)
       ·simp[intOf]<;>omega
      ·obtain⟨m,mR⟩:∃ m,k=m+1:=⟨k - 1,by omega⟩;obtain⟨z,ox⟩:∃ z,H[m]?=some z:=⟨_,aQ (by omega)⟩;obtain⟨b3,o3,sz,Fo,aJJ,ll,sh,g3⟩:=uc ((HH.out.keep jp (HB.out.abQ)).keep jp (s6.out.abQ)) ox;have aYY:sz.size<=60:=by have:=yw (BL.out z (gQ ox));rw[<-ll,bO] at this;exact this
       have Dw:z≠[]:=λe=>by have:=BL.out z (gQ ox);rw[e] at this;exact absurd this (by decide)
       have Io:Hid (Np.inL (Np.bC sn.data.toList) (Np.bC sz.data.toList)=Np.aW sn.data.toList z):=jq (by rw[ll];exact Np.py Dw);have sX:Hid (Np.jL H k sn.data.toList=if Np.aW sn.data.toList z=true then z else []):=jq (by unfold Np.jL;rw[mR,show m+1 - 1=m by omega,ox];simp);have uA:=jq ll;have ki:decide ((0:Int)<(k:Int))=true:=by simp;omega
       have iP:decide (0<k)=true:=by simp;omega
       have ah:IntKind.i64.wrap ((k:Int) - 1)=(m:Int):=by rw[IntWalk.i64_in _ (by omega)];omega
       have rS:(0:Int)<=(m:Int):=by omega
       have uX:(m:Int)<(H.length:Int):=by omega
       clear ox ll mR ik Dw;simp only[Option.some.injEq,Addr.mk.injEq,and_true] at Fo;obtain⟨rfl,rfl⟩:=Fo;go_wp2_with fail;refine (DH sn sz (by omega) (by omega) _).mono ?_;rw[Io.out];rintro e w7 ⟨rfl,bF⟩;have cw:=jq bF;have qV:=bF.size;clear bF;have AS:Hid (Below Bs w1 w7):=aaZ AQ cw.out;have Ci:Bs<w7.heap.size:=by omega
       have wF:Hid (fP w7 Bs (bs++List.replicate (l.length - i) [])):=jq (mA.out.keep cw.out (by omega));have g37:w7.cell? ⟨b2,o2+m,none⟩=some (.string sz):=aaQ cw.out g3;obtain⟨s0,_,_,jJ,uT⟩:=wF.out i [] (by rw[oQ (by omega),cO,Nat.sub_self,List.getElem?_replicate,QbQ (by omega)])
       cases hu:Np.aW sn.data.toList z with
       | true=>
        have pW:Hid (Np.jL H k sn.data.toList=sz.data.toList):=jq (by rw[sX.out,hu,QbQ rfl,uA.out]);clear hu;go_wp2_with fail;go_roundw
        case rel=>exact pO.out _ (AS.out.setCell (by simp) _) (by simpa using Ci) (by rw[pW.out,<-Uz cO ag];exact wF.out.store (by rw[List.length_append,List.length_replicate];omega) sz sh)
        ·simp[intOf]<;>omega
       | false=>
        have pW:Hid (Np.jL H k sn.data.toList = []):=jq (by rw[sX.out,hu];rfl);clear hu;go_wp2_with fail;go_roundw
        case rel=>exact pO.out _ AS.out Ci (by rw[pW.out,<-GQ ag];exact wF.out)
        ·simp[intOf]<;>omega
    ·have Ij:Hid (∀ (j:Nat) (y:List UInt8),k<=j->H[j]?=some y->0<Np.br y sn.data.toList):=jq (λj z hj hz=>by have:=(cQ.1 hz).1;omega);have kY:decide ((k:Int)<(H.length:Int))=false:=by simp;omega
     have pO:Hid (∀ W',Below Bs w1 W'->Bs<W'.heap.size->fP W' Bs (bs ++ [Np.jL H k sn.data.toList]++List.replicate (l.length - (i+1)) [])->G3 w.heap.size Bs w1 ⟨a.data.toList,l⟩ H (.int .i64 k) (.int .i64 (i+1)) W'):=jq (λW' h1 h2 h3=>by
      refine⟨i+1,k,bs ++ [Np.jL H k sn.data.toList],by show i+1<=l.length;omega,hk,by go_num,rfl,by simp[cO],jq h1,jq h3,h2,Ss,jq λj x' b' hx' hb'=>?_,jq λj y x' hj hy hx'=>?_⟩
      ·have hx':l[j]?=some x':=hx';by_cases e:j<i
       ·rw[List.getElem?_append_left (by omega)] at hb';exact HT.out j x' b' hx' hb'
       ·have CP:j=i:=by have:=(cQ.1 hb').1;simp at this;omega
        subst CP;rw[HX.out] at hx';cases hx';rw[oQ (by omega),cO,Nat.sub_self] at hb'
        cases hb'
        rw[<-bU.out];exact Ou.out _ k hk Bp.out Ij.out
      ·obtain⟨q1,e1⟩:=cQ.1 HX.out;have hx':l[i+1]?=some x':=hx';obtain⟨q2,e2⟩:=cQ.1 hx';have h4:=HO.out.names (show i<i+1 by omega) q2;dsimp only at h4;rw[e1,e2,<-bU.out] at h4;exact Qe (Bp.out j y hj hy) h4)
     have s6:=jq (vV.out);have AQ:Hid (Below Bs w1 wr):=aaZ HB s6.out;have pf:Bs<wr.heap.size:=by have:=s6.out.size;omega
     have mA:Hid (fP wr Bs (bs++List.replicate (l.length - i) [])):=jq (HR.out.keep s6.out (by omega));by_cases ik:k=0
     ·have ki:decide ((0:Int)<(k:Int))=false:=by simp;omega
      have iP:decide (0<k)=false:=by simp;omega
      have sX:Hid (Np.jL H k sn.data.toList = []):=jq (by unfold Np.jL;rw[Qc (by omega)]);clear ik;go_wp2_with fail;go_roundw
      case rel=>exact pO.out _ AQ.out pf (by rw[sX.out,<-GQ ag];exact mA.out)
      ·simp[intOf]<;>omega
     ·obtain⟨m,mR⟩:∃ m,k=m+1:=⟨k - 1,by omega⟩;obtain⟨z,ox⟩:∃ z,H[m]?=some z:=⟨_,aQ (by omega)⟩;obtain⟨b3,o3,sz,Fo,aJJ,ll,sh,g3⟩:=uc ((HH.out.keep jp (HB.out.abQ)).keep jp (s6.out.abQ)) ox;have aYY:sz.size<=60:=by have:=yw (BL.out z (gQ ox));rw[<-ll,bO] at this;exact this
      have Dw:z≠[]:=λe=>by have:=BL.out z (gQ ox);rw[e] at this;exact absurd this (by decide)
      have Io:Hid (Np.inL (Np.bC sn.data.toList) (Np.bC sz.data.toList)=Np.aW sn.data.toList z):=jq (by rw[ll];exact Np.py Dw);have sX:Hid (Np.jL H k sn.data.toList=if Np.aW sn.data.toList z=true then z else []):=jq (by unfold Np.jL;rw[mR,show m+1 - 1=m by omega,ox];simp);have uA:=jq ll;have ki:decide ((0:Int)<(k:Int))=true:=by simp;omega
      have iP:decide (0<k)=true:=by simp;omega
      have ah:IntKind.i64.wrap ((k:Int) - 1)=(m:Int):=by rw[IntWalk.i64_in _ (by omega)];omega
      have rS:(0:Int)<=(m:Int):=by omega
      have uX:(m:Int)<(H.length:Int):=by omega
      clear ox ll mR ik Dw;subst Fo;go_wp2_with fail;refine (DH sn sz (by omega) (by omega) _).mono ?_;rw[Io.out];rintro e w7 ⟨rfl,bF⟩;have cw:=jq bF;have qV:=bF.size;clear bF;have AS:Hid (Below Bs w1 w7):=aaZ AQ cw.out;have Ci:Bs<w7.heap.size:=by omega
      have wF:Hid (fP w7 Bs (bs++List.replicate (l.length - i) [])):=jq (mA.out.keep cw.out (by omega));have g37:w7.cell? ⟨b3,o3+m,none⟩=some (.string sz):=aaQ cw.out g3;obtain⟨s0,_,_,jJ,uT⟩:=wF.out i [] (by rw[oQ (by omega),cO,Nat.sub_self,List.getElem?_replicate,QbQ (by omega)])
      cases hu:Np.aW sn.data.toList z with
      | true=>
       have pW:Hid (Np.jL H k sn.data.toList=sz.data.toList):=jq (by rw[sX.out,hu,QbQ rfl,uA.out]);clear hu;go_wp2_with fail;go_roundw
       case rel=>exact pO.out _ (AS.out.setCell (by simp) _) (by simpa using Ci) (by rw[pW.out,<-Uz cO ag];exact wF.out.store (by rw[List.length_append,List.length_replicate];omega) sz sh)
       ·simp[intOf]<;>omega
      | false=>
       have pW:Hid (Np.jL H k sn.data.toList = []):=jq (by rw[sX.out,hu];rfl);clear hu;go_wp2_with fail;go_roundw
       case rel=>exact pO.out _ AS.out Ci (by rw[pW.out,<-GQ ag];exact wF.out)
       ·simp[intOf]<;>omega
  ·have Kz:i=l.length:=by omega
   have HE:Hid (SlR RTx 1 wr wr.heap.size (.slice (some ⟨Bs,0,none⟩) l.length l.length) (Np.eT ⟨a.data.toList,l⟩)):=jq (by
    have h1:=HR.out;have e:l.length - i=0:=by omega
    dsimp only at h1;rw[e,List.replicate_zero,List.append_nil] at h1;have h2:=h1.slr xd (by omega);have h3:=Np.akJ HO.out (B:=bs) (by rw[cO];exact Kz) HT.out;rw[<-h3];rw[cO,Kz] at h2;exact h2)
   clear Kz;go_wp2_with fail;go_ret;exact⟨_,rfl,HE.out,aD.out⟩
def Np.BZ(l:List Np.Signed)(k:Nat)(x:Np.Signed):Prop:=∀ p,0<k->l[k - 1]?=some p->p.set.name=x.set.name->x.set.type≠3/\(Np.oG (l.take (k+1))=x.set.name->x.set.type=8)
def Np.B0(l:List Np.Signed):Prop:=∀ k x,l[k]?=some x->Np.BZ l k x
theorem a9Y{l:List Np.Signed}{k:Nat}{x:Np.Signed}(hx:l[k]?=some x):Np.oG (l.take (k+1))=if x.set.type=3 then x.set.name else Np.oG (l.take k):=by
 obtain⟨hk,rfl⟩:=cQ.1 hx;rw[fQ hk,Np.LI]
theorem bqQ(a:ByteArray)(v:Value)(l:List Np.Signed)(dJ:l.length<=20000)(hv:∀ x∈l,x.set.name≠[])(w:World)(hd:SlR az 5 w w.heap.size v l) :
 Calls prog 66 #[.agg #[.string a,v]] w (aCX w.heap.size w (.bool (Np.yes (Np.B0 l)))):=by
 obtain⟨r,hr⟩:=aaK (Np.yes (Np.B0 l));rw[hr];have HR:=jq hr;have HD:=jq hd;have HV:=jq hv;obtain⟨A,c,rfl,aR,cP⟩:=ba hd;clear hr hd hv;have HW:=blW w;go_enter func66,ntmps66;go_wp2_with fail;obtain⟨w1,ah⟩:=aaK (w.alloc (.cells #[.string a,.slice A l.length c] 66));have c1:w1.cell? ⟨w.heap.size,1,none⟩=some (.slice A l.length c):=by rw[<-ah];simp[go_sem]
 have bG:w1.heap.size=w.heap.size+1:=by rw[<-ah];simp
 have ay:Hid (Below w.heap.size w w1):=jq (by rw[<-ah];exact HW.out _);rw[ah];clear ah;go_loopw [3,4] (λva i wr=>∃ (k:Nat) (sa:ByteArray),k<=l.length/\i = .int .i64 k/\va = .string sa/\Hid (sa.data.toList=Np.oG (l.take k))/\Hid (Below w1.heap.size w1 wr)/\Hid (∀ j x,j<k->l[j]?=some x->Np.BZ l j x)) (λ_ i _=>l.length - (intOf i).toNat)
 case atStart=>exact⟨0,⟨#[]⟩,jQ _,rfl,rfl,jq rfl,jq (vQ _ _),jq (λj g hj=>by omega)⟩
 case round=>
  obtain⟨k,sa,hk,rfl,rfl,EK,HB,HA⟩:=hrel;have aB:=HB.out.size;have d1:wr.cell? ⟨w.heap.size,1,none⟩=some (.slice A l.length c):=aaQ HB.out c1;have aD:=aaZ ay HB.out;have gO:w.heap.size<wr.heap.size:=by omega
  by_cases ag:k<l.length
  ·obtain⟨x,aF⟩:∃ x,l[k]?=some x:=⟨_,aQ ag⟩;obtain⟨b,o,c',sn,dv,sv,hA,cX,_,aP,fK,aV,aZ,f0,f1,f2,f3,f4⟩:=dN (HD.out.keep ax aD.out) aF
   cases hA
   have HX:=jq aF;have bU:=jq aP;have yP:=jq (a9Y aF);have hne:(sn.toList == [])=false:=by rw[dQ,aP];simpa using HV.out x (gQ aF)
   have ey:Hid (Np.BZ l k x->∀ j y,j<k+1->l[j]?=some y->Np.BZ l j y):=jq (λh j y hj hy=>by
    by_cases e:j=k
    ·subst e;rw[aF] at hy;cases hy;exact h
    ·exact HA.out j y (by omega) hy)
   have HF:Hid (¬ Np.BZ l k x->r=false):=jq (λh=>by rw[<-HR.out];exact Np.eX λq=>h (q k x aF));have df:(0:Int)<=(k:Int):=by omega
   have dg:(k:Int)<(l.length:Int):=by omega
   have av:b<wr.heap.size:=by omega
   have Kl:∃ q:Bool,Hid (q=true↔∃ p,0<k/\l[k - 1]?=some p/\p.set.name=x.set.name)/\((k=0/\q=false)\/∃ (m:Nat) (sy:ByteArray),k=m+1/\wr.cell? ⟨b,o+m * 5,none⟩=some (.string sy)/\(sy.toList == sn.toList)=q):=by
    by_cases ik:k=0
    ·exact⟨false,jq ⟨λh=>(by cases h),λ⟨p,h,_⟩=>(by omega)⟩,.inl ⟨ik,rfl⟩⟩
    ·obtain⟨m,rfl⟩:∃ m,k=m+1:=⟨k - 1,by omega⟩;obtain⟨y,hy⟩:∃ y,l[m]?=some y:=⟨_,aQ (by omega)⟩;obtain⟨b9,o9,c9,sy,dv9,sv9,hA,_,_,nL,_,_,_,q0,q1,_⟩:=dN (HD.out.keep ax aD.out) hy;simp only[Value.slice.injEq,Option.some.injEq,Addr.mk.injEq,and_true,true_and] at hA;obtain⟨⟨rfl,rfl⟩,-⟩:=hA;refine⟨_,jq ?_,.inr ⟨m,sy,rfl,q0,rfl⟩⟩;rw[dQ,dQ,nL,bU.out,beq_iff_eq];constructor
     ·intro h;exact⟨y,by omega,by simpa using hy,h⟩
     ·rintro⟨p,_,hp,h⟩;rw[show m+1 - 1=m by omega,hy] at hp
      cases hp;exact h
   obtain⟨qb,nZ,li⟩:=Kl;obtain⟨ty,bm⟩:=aaK x.set.type;have fj:=jq bm;rw[bm] at f1;clear aF aP aV aZ bm f2 f3 f4;have kf:∃ m:Nat,(decide ((0:Int)<(k:Int))=false/\decide (0<k)=false/\qb=false)\/(decide ((0:Int)<(k:Int))=true/\decide (0<k)=true/\IntKind.i64.wrap ((k:Int) - 1)=(m:Int)/\(k:Int) - 1=(m:Int)/\(0:Int)<=(m:Int)/\(m:Int)<(l.length:Int)/\∃ sy:ByteArray,wr.cell? ⟨b,o+m * 5,none⟩=some (.string sy)/\(sy.toList == sn.toList)=qb):=by
    rcases li with ⟨ik,h⟩ | ⟨m,sy,mR,g0,r9⟩
    ·exact⟨0,.inl ⟨by simp;omega,by simp;omega,h⟩⟩
    ·exact⟨m,.inr ⟨by simp;omega,by simp;omega,by rw[IntWalk.i64_in _ (by omega)];omega,by omega,by omega,by omega,sy,g0,r9⟩⟩
   clear li;obtain⟨m,kf⟩:=kf;by_cases h3:ty=3
   ·subst h3;have vm:Hid (sn.data.toList=Np.oG (l.take (k+1))):=jq (by rw[yP.out,QbQ fj.out,bU.out]);rcases kf with ⟨ki,iP,rfl⟩ | ⟨ki,iP,Lo,Gl,iO,mP,sy,g0,r9⟩
    ·have dj:=jq (ey.out (λp h0 hp he=>by have:=nZ.out.2 ⟨p,h0,hp,he⟩;cases this));go_wp2_with fail;go_quiet (fail);go_wp2_with fail;go_roundw
     case rel=>exact⟨k+1,sn,by omega,by go_num,rfl,vm,jq (below_drewN HB.out _),jq dj.out⟩
     ·simp[intOf]<;>omega
    ·cases qb with
     | false=>
      have dj:=jq (ey.out (λp h0 hp he=>by have:=nZ.out.2 ⟨p,h0,hp,he⟩;cases this));go_wp2_with fail;go_quiet (fail);go_wp2_with fail;go_roundw
      case rel=>exact⟨k+1,sn,by omega,by go_num,rfl,vm,jq (below_drewN HB.out _),jq dj.out⟩
      ·simp[intOf]<;>omega
     | true=>
      have rC:Hid (r=false):=jq (HF.out λh=>by
       obtain⟨p,h0,hp,he⟩:=nZ.out.1 (by simp);exact (h p h0 hp he).1 fj.out)
      go_wp2_with fail;go_quiet (fail);obtain⟨w2,ar⟩:=aaK (wr.drewN nq);rw[ar];have ae:Below wr.heap.size wr w2:=by rw[<-ar];exact below_drewN (vQ _ _) _
      have t1:w2.cell? ⟨w.heap.size,1,none⟩=some (.slice (some ⟨b,o,none⟩) l.length c):=aaQ ae d1;have t2:w2.cell? ⟨b,o+k * 5,none⟩=some (.string sn):=aaQ ae f0;have dx:=aaZ aD ae;clear ae ar;go_wp2_with fail;go_ret;exact⟨aj rC.out.symm,dx.out⟩
   ·have h3':(ty == 3)=false:=by simpa using h3
    have h3'':(ty != 3)=true:=by simpa using h3
    have vm:Hid (sa.data.toList=Np.oG (l.take (k+1))):=jq (by rw[yP.out,Qc (by rw[fj.out];exact h3)];exact EK.out);rcases kf with ⟨ki,iP,rfl⟩ | ⟨ki,iP,Lo,Gl,iO,mP,sy,g0,r9⟩
    ·have dj:=jq (ey.out (λp h0 hp he=>by have:=nZ.out.2 ⟨p,h0,hp,he⟩;cases this));go_wp2_with fail;go_quiet (fail);go_wp2_with fail;go_roundw
     case rel=>exact⟨k+1,sa,by omega,by go_num,rfl,vm,jq (below_drewN HB.out _),jq dj.out⟩
     ·simp[intOf]<;>omega
    ·cases qb with
     | false=>
      have dj:=jq (ey.out (λp h0 hp he=>by have:=nZ.out.2 ⟨p,h0,hp,he⟩;cases this));go_wp2_with fail;go_quiet (fail);go_wp2_with fail;go_roundw
      case rel=>exact⟨k+1,sa,by omega,by go_num,rfl,vm,jq (below_drewN HB.out _),jq dj.out⟩
      ·simp[intOf]<;>omega
     | true=>
      obtain⟨qe,hqe⟩:=aaK (sn.toList == sa.toList);have N6:Hid (qe=true↔Np.oG (l.take (k+1))=x.set.name):=jq (by rw[<-hqe,dQ,dQ,bU.out,vm.out,beq_iff_eq];exact eq_comm);obtain⟨q8,jG⟩:=aaK (ty != 8);have yZ:Hid (q8=true↔x.set.type≠8):=jq (by rw[<-jG,fj.out];simp);have EM:Hid (x.set.type≠3):=jq (by rw[fj.out];exact h3);clear h3;go_wp2_with fail;go_quiet (fail);obtain⟨w2,ar⟩:=aaK (wr.drewN nq);rw[ar];have ae:Below wr.heap.size wr w2:=by rw[<-ar];exact below_drewN (vQ _ _) _
      have t1:w2.cell? ⟨w.heap.size,1,none⟩=some (.slice (some ⟨b,o,none⟩) l.length c):=aaQ ae d1;have t2:w2.cell? ⟨b,o+k * 5,none⟩=some (.string sn):=aaQ ae f0;have dx:=aaZ aD ae;have OA:=jq (HB.out.trans (ae.mono HB.out.size));clear ae ar
      cases qe with
      | false=>
       have dj:=jq (ey.out (λp h0 hp he=>⟨EM.out,λhl=>by have:=N6.out.2 hl;cases this⟩));go_wp2_with fail;go_roundw
       case rel=>exact⟨k+1,sa,by omega,by go_num,rfl,vm,jq OA.out,jq dj.out⟩
       ·simp[intOf]<;>omega
      | true=>
       cases q8 with
       | false=>
        have dj:=jq (ey.out (λp h0 hp he=>⟨EM.out,λ_=>Decidable.not_not.1 λh8=>by have:=yZ.out.2 h8;cases this⟩));go_wp2_with fail;go_roundw
        case rel=>exact⟨k+1,sa,by omega,by go_num,rfl,vm,jq OA.out,jq dj.out⟩
        ·simp[intOf]<;>omega
       | true=>
        have rC:Hid (r=false):=jq (HF.out λh=>by
         obtain⟨p,h0,hp,he⟩:=nZ.out.1 (by simp);exact yZ.out.1 (by simp) ((h p h0 hp he).2 (N6.out.1 (by simp))))
        go_wp2_with fail;go_ret;exact⟨aj rC.out.symm,dx.out⟩
  ·go_wp2_with fail;go_ret;refine⟨aj ?_,aD.out⟩;rw[<-HR.out];exact (Np.gY λi x hx=>HA.out i x (by have:=(cQ.1 hx).1;omega) hx).symm
theorem boZ(a:ByteArray)(v:Value)(l:List Np.Signed)(dJ:l.length<=20000)(ho:Np.InOrder ⟨a.data.toList,l⟩)(hv:∀ x∈l,Np.ai x.set.name=true)(w:World)(hd:SlR az 5 w w.heap.size v l) :
 Calls prog 67 #[.agg #[.string a,v]] w (aCX w.heap.size w (.bool (Np.yes (Np.rm l (Np.eT ⟨a.data.toList,l⟩))))):=by
 obtain⟨B,hB⟩:=aaK (Np.eT ⟨a.data.toList,l⟩);have j8:B.length=l.length:=by rw[<-hB];exact Np.uH _
 obtain⟨r,hr⟩:=aaK (Np.yes (Np.rm l (Np.eT ⟨a.data.toList,l⟩)));rw[hr];rw[hB] at hr;have HR:=jq hr;have dP:=jq j8;have ed:=jq hB;have HD:=jq hd;have HO:=jq ho;have HV:=jq hv;obtain⟨A,c,rfl,aR,cP⟩:=ba hd;clear hr hd ho hv hB j8;have HW:=blW w;go_enter func67,ntmps67;go_wp2_with fail;refine (Un a _ l dJ HO.out HV.out _ (HD.out.later ax aK (HW.out _))).mono ?_;rintro e w1 ⟨bv,rfl,eF,av⟩;have eH:w.heap.size<w1.heap.size:=by have:=av.size;simp at this;omega
 have c1':w1.cell? ⟨w.heap.size,1,none⟩=some (.slice A l.length c):=by rw[av.cell (by simp)];go_simp
 have ay:=jq ((HW.out _).trans (av.mono (by simp)));obtain⟨A2,c2,rfl,cH,ei⟩:=ba eF;rw[ed.out] at cH ei eF |-;rw[dP.out] at cH ei eF |-;have aJ:=jq eF;clear av eF;go_wp2_with fail;go_loopw [4] (λi wr=>∃ k:Nat,k<=l.length/\i = .int .i64 k/\Hid (Below w1.heap.size w1 wr)/\Hid (∀ j x b,j<k->l[j]?=some x->B[j]?=some b->Np.nc x.set b)) (λi _=>l.length - (intOf i).toNat)
 case atStart=>exact⟨0,jQ _,rfl,jq (vQ _ _),jq (λj x b hj=>by omega)⟩
 case round=>
  obtain⟨k,hk,rfl,HB,HA⟩:=hrel;have aB:=HB.out.size;have aD:=aaZ ay HB.out;have d1:wr.cell? ⟨w.heap.size,1,none⟩=some (.slice A l.length c):=aaQ HB.out c1';by_cases ag:k<l.length
  ·obtain⟨x,aF⟩:∃ x,l[k]?=some x:=⟨_,aQ ag⟩;obtain⟨bb,fp⟩:∃ bb,B[k]?=some bb:=⟨_,aQ (by rw[dP.out];omega)⟩;obtain⟨b,o,c',sn,dv,sv,hA,cX,_,aP,fK,aV,aZ,e0,e1,e2,e3,e4⟩:=dN (HD.out.keep ax aD.out) aF
   cases hA
   obtain⟨b2,o2,sb,rfl,zy,qO,La,g0⟩:=uc (aJ.out.keep jp HB.out) fp;have HN:Hid (Np.nc x.set bb->∀ j x b,j<k+1->l[j]?=some x->B[j]?=some b->Np.nc x.set b):=jq (λh j x b hj hx hb=>by
    by_cases e:j=k
    ·subst e;rw[aF] at hx;rw[fp] at hb;cases hx;cases hb;exact h
    ·exact HA.out j x b (by omega) hx hb)
   have HF:Hid (¬ Np.nc x.set bb->r=false):=jq (λh=>by
    rw[<-HR.out];exact Np.eX λq=>h (q k _ _ aF fp))
   clear aF fp;obtain⟨Ad,cd,rfl,_,_⟩:=ba aV;obtain⟨As,cs,rfl,_,_⟩:=ba aZ;have hcell:wr.cell? ⟨w.heap.size,1,none⟩=some (.slice (some ⟨b,o,none⟩) l.length c):=aaQ HB.out c1';have gO:w.heap.size<wr.heap.size:=by omega
   have av:b<wr.heap.size:=by omega
   have ae:b2<wr.heap.size:=by omega
   have cu:Hid (∀ o,Below w1.heap.size w1 (wr.alloc o)):=jq (λo=>HB.out.alloc HB.out.size _);have pK:Hid (∀ o,Below w.heap.size w (wr.alloc o)):=jq (λo=>aD.out.alloc (by omega) _);have df:=kNN k;have dg:(k:Int)<(l.length:Int):=by omega
   have bU:=jq aP;have mB:=jq qO;obtain⟨ty,bm⟩:=aaK x.set.type;have fj:=jq bm;rw[bm] at e1;clear aP qO aV aZ bm e4;by_cases cG:bb = []
   ·obtain rfl:sb=⟨#[]⟩:=iV (by rw[mB.out,cG]);have dj:=jq (Qm (x:=x.set) cG);clear cG;by_cases h6:ty=6
    ·have HX:Hid (r=false):=jq (HF.out λh=>(dj.out.1 h) (fj.out.trans h6));subst h6;go_wp2_with fail;go_quiet (fail);obtain⟨w2,ar⟩:=aaK ((wr.alloc (.cells #[.string sn,.int .i64 6,.int .i64 x.set.life,.slice Ad x.set.data.length cd] 25)).drewN nq);rw[ar];have dB:Below wr.heap.size wr w2:=by rw[<-ar];exact below_drewN (blAl) _
     have p1:w2.cell? ⟨wr.heap.size,1,none⟩=some (.int .i64 6):=by rw[<-ar];simp[go_sem]
     have g02:w2.cell? ⟨b2,o2+k,none⟩=some (.string ⟨#[]⟩):=aaQ dB g0;have dx:=jq (HB.out.trans (dB.mono HB.out.size));have pX:=aaZ aD dB;clear dB ar g0;go_wp2_with fail;go_ret;exact⟨aj HX.out.symm,pX.out⟩
    ·have HX:=jq (HN.out (dj.out.2 λh=>h6 (fj.out.symm.trans h)));have h6':(ty == 6)=false:=by simpa using h6
     clear h6;go_wp2_with fail;go_quiet (fail);obtain⟨w2,ar⟩:=aaK ((wr.alloc (.cells #[.string sn,.int .i64 ty,.int .i64 x.set.life,.slice Ad x.set.data.length cd] 25)).drewN nq);rw[ar];have dB:Below wr.heap.size wr w2:=by rw[<-ar];exact below_drewN (blAl) _
     have p1:w2.cell? ⟨wr.heap.size,1,none⟩=some (.int .i64 ty):=by rw[<-ar];simp[go_sem]
     have g02:w2.cell? ⟨b2,o2+k,none⟩=some (.string ⟨#[]⟩):=aaQ dB g0;have dx:=jq (HB.out.trans (dB.mono HB.out.size));have pX:=aaZ aD dB;clear dB ar g0;go_wp2_with fail;go_roundw
     case rel=>exact⟨k+1,by omega,by go_num,jq dx.out,jq HX.out⟩
     ·simp[intOf]<;>omega
   ·have zF:(sb.toList == [])=false:=by rw[dQ,mB.out];simpa using cG
    by_cases eU:bb=x.set.name
    ·have Km:(sn.toList == sb.toList)=true:=by rw[dQ,dQ,mB.out,bU.out];simpa using eU.symm
     have dj:=jq (Qn (x:=x.set) cG eU);clear cG eU;by_cases ht:ty=2\/ty=6\/ty=8\/ty=1
     ·have HX:=jq (HN.out (dj.out.2 (by rw[fj.out];exact ht)));rcases ht with rfl | rfl | rfl | rfl
      ·skip
       go_wp2_with fail;go_quiet (fail);obtain⟨w2,ar⟩:=aaK ((wr.alloc (.cells #[.string sn,.int .i64 2,.int .i64 x.set.life,.slice Ad x.set.data.length cd] 25)).drewN nq);rw[ar];have dB:Below wr.heap.size wr w2:=by rw[<-ar];exact below_drewN (blAl) _
       have p1:w2.cell? ⟨wr.heap.size,1,none⟩=some (.int .i64 2):=by rw[<-ar];simp[go_sem]
       have g02:w2.cell? ⟨b2,o2+k,none⟩=some (.string sb):=aaQ dB g0;have dx:=jq (HB.out.trans (dB.mono HB.out.size));have pX:=aaZ aD dB;clear dB ar g0;go_wp2_with fail;go_roundw
       case rel=>exact⟨k+1,by omega,by go_num,jq dx.out,jq HX.out⟩
       ·simp[intOf]<;>omega
      ·skip
       go_wp2_with fail;go_quiet (fail);obtain⟨w2,ar⟩:=aaK ((wr.alloc (.cells #[.string sn,.int .i64 6,.int .i64 x.set.life,.slice Ad x.set.data.length cd] 25)).drewN nq);rw[ar];have dB:Below wr.heap.size wr w2:=by rw[<-ar];exact below_drewN (blAl) _
       have p1:w2.cell? ⟨wr.heap.size,1,none⟩=some (.int .i64 6):=by rw[<-ar];simp[go_sem]
       have g02:w2.cell? ⟨b2,o2+k,none⟩=some (.string sb):=aaQ dB g0;have dx:=jq (HB.out.trans (dB.mono HB.out.size));have pX:=aaZ aD dB;clear dB ar g0;go_wp2_with fail;go_roundw
       case rel=>exact⟨k+1,by omega,by go_num,jq dx.out,jq HX.out⟩
       ·simp[intOf]<;>omega
      ·skip
       go_wp2_with fail;go_quiet (fail);obtain⟨w2,ar⟩:=aaK ((wr.alloc (.cells #[.string sn,.int .i64 8,.int .i64 x.set.life,.slice Ad x.set.data.length cd] 25)).drewN nq);rw[ar];have dB:Below wr.heap.size wr w2:=by rw[<-ar];exact below_drewN (blAl) _
       have p1:w2.cell? ⟨wr.heap.size,1,none⟩=some (.int .i64 8):=by rw[<-ar];simp[go_sem]
       have g02:w2.cell? ⟨b2,o2+k,none⟩=some (.string sb):=aaQ dB g0;have dx:=jq (HB.out.trans (dB.mono HB.out.size));have pX:=aaZ aD dB;clear dB ar g0;go_wp2_with fail;go_roundw
       case rel=>exact⟨k+1,by omega,by go_num,jq dx.out,jq HX.out⟩
       ·simp[intOf]<;>omega
      ·skip
       go_wp2_with fail;go_quiet (fail);obtain⟨w2,ar⟩:=aaK ((wr.alloc (.cells #[.string sn,.int .i64 1,.int .i64 x.set.life,.slice Ad x.set.data.length cd] 25)).drewN nq);rw[ar];have dB:Below wr.heap.size wr w2:=by rw[<-ar];exact below_drewN (blAl) _
       have p1:w2.cell? ⟨wr.heap.size,1,none⟩=some (.int .i64 1):=by rw[<-ar];simp[go_sem]
       have g02:w2.cell? ⟨b2,o2+k,none⟩=some (.string sb):=aaQ dB g0;have dx:=jq (HB.out.trans (dB.mono HB.out.size));have pX:=aaZ aD dB;clear dB ar g0;go_wp2_with fail;go_roundw
       case rel=>exact⟨k+1,by omega,by go_num,jq dx.out,jq HX.out⟩
       ·simp[intOf]<;>omega
     ·have HX:Hid (r=false):=jq (HF.out λh=>ht (by have:=dj.out.1 h;rwa [fj.out] at this));have t1:(ty != 2)=true:=by simp;omega
      have t2:(ty != 6)=true:=by simp;omega
      have t3:(ty != 8)=true:=by simp;omega
      have t4:(ty != 1)=true:=by simp;omega
      clear ht;go_wp2_with fail;go_quiet (fail);obtain⟨w2,ar⟩:=aaK ((wr.alloc (.cells #[.string sn,.int .i64 ty,.int .i64 x.set.life,.slice Ad x.set.data.length cd] 25)).drewN nq);rw[ar];have dB:Below wr.heap.size wr w2:=by rw[<-ar];exact below_drewN (blAl) _
      have p1:w2.cell? ⟨wr.heap.size,1,none⟩=some (.int .i64 ty):=by rw[<-ar];simp[go_sem]
      have g02:w2.cell? ⟨b2,o2+k,none⟩=some (.string sb):=aaQ dB g0;have dx:=jq (HB.out.trans (dB.mono HB.out.size));have pX:=aaZ aD dB;clear dB ar g0;go_wp2_with fail;go_ret;exact⟨aj HX.out.symm,pX.out⟩
    ·have Km:(sn.toList == sb.toList)=false:=by rw[dQ,dQ,mB.out,bU.out];simpa using λe:x.set.name=bb=>eU e.symm
     have dj:=jq (Qo (x:=x.set) cG eU);clear cG eU;by_cases ht:ty=1
     ·have HX:=jq (HN.out (dj.out.2 (by rw[fj.out];exact ht)));subst ht;go_wp2_with fail;go_quiet (fail);obtain⟨w2,ar⟩:=aaK ((wr.alloc (.cells #[.string sn,.int .i64 1,.int .i64 x.set.life,.slice Ad x.set.data.length cd] 25)).drewN nq);rw[ar];have dB:Below wr.heap.size wr w2:=by rw[<-ar];exact below_drewN (blAl) _
      have p1:w2.cell? ⟨wr.heap.size,1,none⟩=some (.int .i64 1):=by rw[<-ar];simp[go_sem]
      have g02:w2.cell? ⟨b2,o2+k,none⟩=some (.string sb):=aaQ dB g0;have dx:=jq (HB.out.trans (dB.mono HB.out.size));have pX:=aaZ aD dB;clear dB ar g0;go_wp2_with fail;go_roundw
      case rel=>exact⟨k+1,by omega,by go_num,jq dx.out,jq HX.out⟩
      ·simp[intOf]<;>omega
     ·have HX:Hid (r=false):=jq (HF.out λh=>ht (by have:=dj.out.1 h;rwa [fj.out] at this));have t4:(ty != 1)=true:=by simpa using ht
      clear ht;go_wp2_with fail;go_quiet (fail);obtain⟨w2,ar⟩:=aaK ((wr.alloc (.cells #[.string sn,.int .i64 ty,.int .i64 x.set.life,.slice Ad x.set.data.length cd] 25)).drewN nq);rw[ar];have dB:Below wr.heap.size wr w2:=by rw[<-ar];exact below_drewN (blAl) _
      have p1:w2.cell? ⟨wr.heap.size,1,none⟩=some (.int .i64 ty):=by rw[<-ar];simp[go_sem]
      have g02:w2.cell? ⟨b2,o2+k,none⟩=some (.string sb):=aaQ dB g0;have dx:=jq (HB.out.trans (dB.mono HB.out.size));have pX:=aaZ aD dB;clear dB ar g0;go_wp2_with fail;go_ret;exact⟨aj HX.out.symm,pX.out⟩
  ·go_wp2_with fail;go_ret;refine⟨aj ?_,aD.out⟩;rw[<-HR.out];exact (Np.gY λi x b hx hb=>HA.out i x b (by have:=(cQ.1 hx).1;omega) hx hb).symm
end
end Go.Proofs.YtadhigmjilijcaaGreatDoor
