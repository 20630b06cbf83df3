/- Parts of the proof. No condition. -/
import Derived.Laws.OwnMore
import Derived.Test.YtbfbobfbgabjiaaGreatDoorM09
set_option linter.all false
set_option maxRecDepth 100000
set_option maxHeartbeats 8000000
namespace Go.Proofs.YtbfbobfbgabjiaaGreatDoor
open Go.Proofs.Tryz
section
open Go.RowKit
theorem OB:∀ (o:List (List UInt8)) (a:List UInt8) (q:Nat) (hq:q<o.length),(∀ t (h:t<o.length),t<q->Np.aM o[t] a<0)->o[q]=a->Np.eZ o a=o
 | [],_,_,hq,_,_=>by simp at hq
 | x::l,a,0,_,_,he=>by
   simp at he;subst he;rw[Np.eZ,Qc (by rw[Np.fH.self]; omega),Qb rfl]
 | x::l,a,q+1,hq,ab,he=>by
   have h0:=ab 0 (by simp) (by omega);rw[Np.eZ,Qb (by simpa using h0),OB l a q (by simpa using hq) (λt h ht=>ab (t+1) (by simpa using h) (by omega)) (by simpa using he)]
theorem Hh:∀ (o:List (List UInt8)) (a:List UInt8) (q:Nat),q<=o.length->(∀ t (h:t<o.length),t<q->Np.aM o[t] a<0)->(∀ h:q<o.length,¬ Np.aM o[q] a<0/\o[q]≠a)->Np.eZ o a=o.take q++a::o.drop q
 | [],a,q,_,_,_=>by simp[Np.eZ]
 | x::l,a,0,_,_,hn=>by
   obtain⟨h1,h2⟩:=hn (by simp);simp at h1 h2;rw[Np.eZ,Qc (by omega),Qc h2];rfl
 | x::l,a,q+1,hq,ab,hn=>by
   have h0:=ab 0 (by simp) (by omega);rw[Np.eZ,Qb (by simpa using h0),Hh l a q (by simpa using hq) (λt h ht=>ab (t+1) (by simpa using h) (by omega)) (λh=>hn (by simpa using h))];rfl
theorem YB{o:List (List UInt8)}{x:List UInt8}{m:Nat}(hm:m<o.length):(o.take (m+1)++x::o.drop (m+1)).set (m+1) o[m]=o.take m++o[m]::o.drop m:=by
 have h1:(o.take (m+1)).length=m+1:=by rw[List.length_take]; omega
 rw[List.set_append_right _ _ (by omega),h1,Nat.sub_self,List.set_cons_zero,fQ hm,List.append_assoc,sQ hm];rfl
theorem NT{o:List (List UInt8)}{x a:List UInt8}{q:Nat}(hq:q<=o.length):(o.take q++x::o.drop q).set q a=o.take q++a::o.drop q:=by
 have h1:(o.take q).length=q:=by rw[List.length_take]; omega
 rw[List.set_append_right _ _ (by omega),h1,Nat.sub_self,List.set_cons_zero]
theorem Xo{o:List (List UInt8)}{x:List UInt8}{j t:Nat}(ht:t<j)(hj:j<=o.length):(o.take j++x::o.drop j)[t]?=o[t]?:=by
 rw[List.getElem?_append_left (by rw[List.length_take]; omega),List.getElem?_take_of_lt ht]
theorem NR{o:List (List UInt8)}{x:List UInt8}{j:Nat}(hj:j<=o.length):(o.take j++x::o.drop j)[j]?=some x:=by
 have h1:(o.take j).length=j:=by rw[List.length_take]; omega
 rw[oQ (by omega),h1,Nat.sub_self]; rfl
theorem NS{o:List (List UInt8)}{x:List UInt8}{j:Nat}(hj:j<=o.length):(o.take j++x::o.drop j).length=o.length+1:=by
 rw[List.length_append,List.length_cons,List.length_take,List.length_drop]; omega
theorem OC:∀ (o:List (List UInt8)) (a:List UInt8),(Np.eZ o a).length<=o.length+1
 | [],a=>by simp[Np.eZ]
 | x::l,a=>by
   rw[Np.eZ];split
   ·have:=OC l a; simp; omega
   ·split <;> simp
theorem Ha:∀ (l o:List (List UInt8)),(l.foldl Np.eZ o).length<=o.length+l.length
 | [],o=>by simp
 | a::l,o=>by
   have h1:=Ha l (Np.eZ o a);have h2:=OC o a;rw[List.foldl_cons,List.length_cons]; omega
theorem Oh:∀ (l o:List (List UInt8)) (y:List UInt8),y∈l.foldl Np.eZ o->y∈o\/y∈l
 | [],o,y,h=>.inl h
 | a::l,o,y,h=>by
   rcases Oh l _ y h with h1 | h1
   ·have:∀ (o:List (List UInt8)),y∈Np.eZ o a->y∈o\/y=a:=by
     intro o
     induction o with
     | nil=>intro h; rw[Np.eZ,List.mem_singleton] at h; exact .inr h
     | cons x l ih=>
      intro h;rw[Np.eZ] at h;split at h
      ·rcases List.mem_cons.1 h with h | h
       ·exact .inl (by rw[h]; simp)
       ·rcases ih h with h | h
        ·exact .inl (mQ _ h)
        ·exact .inr h
      ·split at h
       ·exact .inl h
       ·rcases List.mem_cons.1 h with h | h
        ·exact .inr h
        ·exact .inl h
    rcases this o h1 with h2 | h2
    ·exact .inl h2
    ·exact .inr (by rw[h2]; simp)
   ·exact .inr (mQ _ h1)
theorem Py{X:Nat}{w:World}{v:Value}{o:List (List UInt8)}{a:List UInt8}{N1:Nat}(h:cB X w v (o ++ [a]))(hN:o.length+1=N1):∃ g cap,v = .slice (some ⟨g,0,none⟩) N1 cap/\w.ownsRow X 9 1 (.slice (some ⟨g,0,none⟩) N1 cap) N1 ((o ++ [a]).map aH):=by
 have e:(o ++ [a]).length=N1:=by simp[hN]
 have h1:w.ownsRow X 9 1 v N1 ((o ++ [a]).map aH):=by rw[<-e]; exact h
 rcases h1.2 with ⟨_,h2⟩ | ⟨g,cap,cur,rfl,_⟩
 ·omega
 ·exact⟨g,cap,rfl,h1⟩
theorem L3(v:Value)(l:List Np.Copy)(cu:l.length<=20000)(oV:∀ c∈l,c.zone.apex.length<=1000)(w:World)(h:SlR iF 5 w w.heap.size v l) :
 Calls prog 54 #[v] w λe w'=>∃ v',e = .returned v'/\cB w.heap.size w' v' (Np.apexes l)/\Below w.heap.size w w':=by
 rw[<-Np.GQ];have HD:=jq h;have pt:=jq oV;obtain⟨A,c,rfl,bC,bH⟩:=ag h;clear h oV;obtain⟨X,hX⟩:∃ X,w.heap.size=X:=⟨_,rfl⟩;rw[hX] at HD |-;have gF:=jq hX;clear hX;go_enter func54,ntmps54;go_wp2_with fail;go_loopw [3,4] (λvo i wr=>∃ (k:Nat) (o:List (List UInt8)),k<=l.length/\i = .int .i64 k/\X<=wr.heap.size/\Hid (Below X w wr)/\Hid (cB X wr vo o)/\Hid (((l.take k).map (·.zone.apex)).foldl Np.eZ []=o)) (λ_ i _=>l.length - (intOf i).toNat)
 case atStart=>exact⟨0,[],jQ _,rfl,by rw[gF.out]; exact bQ _,jq (vQ _ _),jq ⟨by simp,.inl ⟨rfl,rfl⟩⟩,jq rfl⟩
 case round=>
  obtain⟨k,o,hk,rfl,uE,HB,HO,HE⟩:=hrel;have kG:Hid (o.length<=20000):=jq (by have:=Ha ((l.take k).map (·.zone.apex)) []; rw[HE.out] at this; simp at this; omega);have Cp:Hid (∀ y∈o,y.length<=1000):=jq (λy hy=>by
   rw[<-HE.out] at hy;rcases Oh _ _ _ hy with h1 | h1
   ·cases h1
   ·obtain⟨c,hc,rfl⟩:=List.mem_map.1 h1;exact pt.out c (List.mem_of_mem_take hc))
  by_cases ab:k<l.length
  ·obtain⟨x,ac⟩:∃ x,l[k]?=some x:=⟨_,aQ ab⟩;obtain⟨b,oo,sn,vz,rfl,bg,az,bL,bX,f0,f1,f2,f3,f4⟩:=nC (HD.out.keep fk HB.out) ac;have pK:Hid (((l.take (k+1)).map (·.zone.apex)).foldl Np.eZ []=Np.eZ o sn.data.toList):=jq (by
    obtain⟨hl,he⟩:=cQ.1 ac;rw[fQ hl,he,List.map_append,List.foldl_append,HE.out,az]; rfl)
   have a1Y:sn.size<=1000:=by
    have h1:=pt.out x (gQ ac);rw[<-az,bn] at h1;exact h1
   obtain⟨A0,c0,rfl⟩:=cB.form HO.out;obtain⟨N,hN⟩:∃ N,o.length=N:=⟨_,rfl⟩;have HN:=jq hN;have gY:Hid (wr.ownsRow X 9 1 (.slice A0 N c0) N (o.map aH)):=jq (by have:wr.ownsRow X 9 1 (.slice A0 o.length c0) o.length (o.map aH):=HO.out; rwa [hN] at this);have bkK:N<=20000:=by rw[<-hN]; exact kG.out
   rw[hN] at HO;rw[hN];obtain⟨wo,rfl⟩:∃ wo,wo=wr:=⟨_,rfl⟩;clear ac az bX f4 hN;go_wp2_with fail;go_loopw [6] (λp wi=>∃ q:Nat,q<=N/\p = .int .i64 q/\Hid (Below wo.heap.size wo wi)/\Hid (∀ t (h:t<o.length),t<q->Np.aM o[t] sn.data.toList<0)) (λp _=>N - (intOf p).toNat)
   case atStart=>exact⟨0,jQ _,rfl,jq (vQ _ _),jq (λt h ht=>by omega)⟩
   case round=>
    obtain⟨q,hqN,rfl,cA,HQ⟩:=hrel;have ut:=cA.out.size;have p8:Hid (wr.ownsRow X 9 1 (.slice A0 N c0) N (o.map aH)):=jq (fL gY.out (λg hg=>cA.out.block g (gY.out.lt g hg).2));by_cases hq:q<N
    ·obtain⟨g,rfl⟩:∃ g,A0=some ⟨g,0,none⟩:=by
      rcases p8.out.2 with ⟨h1,h2⟩ | ⟨g,cap,cur,h1,_⟩
      ·omega
      ·simp only[Value.slice.injEq] at h1;exact⟨g,h1.1⟩
     have QA:q<o.length:=by rw[HN.out]; exact hq
     obtain⟨y,hy⟩:∃ y,o[q]?=some y:=⟨_,aQ QA⟩;have r0:wr.cell? ⟨g,q,none⟩=some (aH y):=by rw[p8.out.cellAt q (by omega),List.getElem?_map,hy]; rfl
     have alQ:(⟨y.toArray⟩:ByteArray).size<=1000:=by
      have:=Cp.out y (gQ hy)
      rw[<-bn]; exact this
     have HY:Hid (o[q]'QA=y):=jq (cQ.1 hy).2;have bT:=Gm ⟨y.toArray⟩ sn alQ a1Y;have e1:(⟨y.toArray⟩:ByteArray).data.toList=y:=rfl;rw[e1] at bT;have HC:=jq bT;clear bT e1 hy;by_cases gG:Np.aM y sn.data.toList<0
     ·have hd:decide (Np.aM y sn.data.toList<0)=true:=uQ gG;have wv:Hid (∀ t (h:t<o.length),t<q+1->Np.aM o[t] sn.data.toList<0):=jq (λt h ht=>by
       by_cases e:t=q
       ·subst e; rw[HY.out]; exact gG
       ·exact HQ.out t h (by omega))
      obtain⟨cz,uz⟩:∃ cz,Np.aM y sn.data.toList=cz:=⟨_,rfl⟩;rw[uz] at hd HC;clear gG uz;unfold aH at r0;go_wp2_with (go_at_call 100; refine (HC.out _).mono ?_; rintro e w5 ⟨rfl,aA⟩; have ca:=jq (cA.out.trans (aA.mono ut)); clear aA);go_roundw
      case rel=>exact⟨q+1,by omega,by go_num,jq ca.out,wv⟩
      case measure=>simp[intOf] <;> omega
     ·have hd:decide (Np.aM y sn.data.toList<0)=false:=tQ gG;have HNC:=jq gG;obtain⟨cz,uz⟩:∃ cz,Np.aM y sn.data.toList=cz:=⟨_,rfl⟩;rw[uz] at hd HC;clear gG uz;unfold aH at r0;by_cases hey:y=sn.data.toList
      ·have di:(y == sn.toList)=true:=by rw[dQ,hey]; simp
       have BG:Hid (Np.eZ o sn.data.toList=o):=jq (OB o _ q QA HQ.out (by rw[HY.out]; exact hey));clear hey;go_wp2_with (go_at_call 100; refine (HC.out _).mono ?_; rintro e w5 ⟨rfl,aA⟩; have r0':=(aA.cell (p:=⟨g,q,none⟩) (by have:=(p8.out.lt g rfl).2; dsimp only; omega)).trans r0; have ca:=jq (cA.out.trans (aA.mono ut)); clear aA);go_roundw
       case rel=>exact⟨k+1,o,by omega,by go_num,by have:=ca.out.size; omega,jq (HB.out.trans (ca.out.mono uE)),jq (HO.out.keep ca.out),jq (by rw[pK.out,BG.out])⟩
       case measure=>simp[intOf] <;> omega
      ·have di:(y == sn.toList)=false:=by rw[dQ]; simpa using hey
       have BG:Hid (Np.eZ o sn.data.toList=o.take q++sn.data.toList::o.drop q):=jq (Hh o _ q (by omega) HQ.out (λh=>by rw[HY.out]; exact⟨HNC.out,hey⟩));clear hey;obtain⟨N1,om⟩:∃ N1,o.length+1=N1:=⟨_,rfl⟩;have IJ:=HN.out;have al:IntKind.i64.wrap ((N1:Int) - 1)=(N:Int):=by rw[show (N1:Int) - 1=N by omega]; simp[IntKind.wrap,IntKind.bits,IntKind.signed]; omega
       have aPK:N+1=N1:=by omega
       have ix:=jq om;clear om IJ;go_wp2_with (first | (go_at_call 100; refine (HC.out _).mono ?_; rintro e w5 ⟨rfl,aA⟩; have r0':=(aA.cell (p:=⟨g,q,none⟩) (by have:=(p8.out.lt g rfl).2; dsimp only; omega)).trans r0; have ca:=jq (cA.out.trans (aA.mono ut)); have gZ:Hid (cB X w5 _ o):=jq (HO.out.keep ca.out); have Ke:X<=w5.heap.size:=(by have:=ca.out.size; omega); clear aA) | (at_builtin; refine xU _ rfl _ _ rfl X _ o rfl (gZ.out.alloc _) w5.heap.size sn.data.toList (by simp[go_sem]) (by simp[go_sem]) (by have:=kG.out; omega) (by simp; omega) ?_; intro v6 w6 lW aW; obtain⟨g6,cap6,rfl,BN⟩:=Py lW ix.out; have IA:=jq BN; have cY:=jq ((((ca.out.mono uE).alloc Ke _).trans aW)); clear lW aW BN));have gP:X<=w6.heap.size:=by have:=cY.out.size; omega
       obtain⟨wj,Kx⟩:∃ wj,wj=w6:=⟨_,rfl⟩;clear Kx;go_loopw [7] (λjv wi=>∃ (j:Nat) (z:List UInt8),q<=j/\j<=N/\jv = .int .i64 j/\X<=wi.heap.size/\Hid (Below X wo wi)/\Hid (wi.ownsRow X 9 1 (.slice (some ⟨g6,0,none⟩) N1 cap6) N1 ((o.take j++z::o.drop j).map aH))) (λjv _=>(intOf jv).toNat)
       case atStart=>exact⟨N,sn.data.toList,by omega,bQ _,rfl,gP,cY,jq (by rw[kQ (by rw[HN.out]; exact bQ _),List.drop_eq_nil_of_le (by rw[HN.out]; exact bQ _)]; exact IA.out)⟩
       case round=>
        obtain⟨j,z,hqj,KI,rfl,eG,ET,qn⟩:=hrel;have jx:j<=o.length:=by rw[HN.out]; exact KI
        have Fu:X<=g6/\g6<wr.heap.size:=qn.out.lt g6 rfl;have EG:wr.cell? ⟨g6,j,none⟩=some (aH z):=by rw[qn.out.cellAt j (by omega),List.getElem?_map,NR jx]; rfl
        have hfj:wr.frozen? ⟨g6,j,none⟩=false:=qn.out.frozenAt j;have aUJ:(0:Int)<=(j:Int):=by omega
        have aRJ:(j:Int)<(N1:Int):=by omega
        have aqZ:j<N1:=by omega
        by_cases Sr:q<j
        ·obtain⟨m,hm⟩:∃ m,j=m+1:=⟨j - 1,by omega⟩;have zx:m<o.length:=by omega
         obtain⟨u,hu⟩:∃ u,o[m]?=some u:=⟨_,aQ zx⟩;have ze:o[m]=u:=(cQ.1 hu).2;have gG:wr.cell? ⟨g6,m,none⟩=some (aH u):=by rw[qn.out.cellAt m (by omega),List.getElem?_map,Xo (by omega) jx,hu]; rfl
         have hjw:IntKind.i64.wrap ((j:Int) - 1)=(m:Int):=by rw[show (j:Int) - 1=m by omega]; simp[IntKind.wrap,IntKind.bits,IntKind.signed]; omega
         have kV:(0:Int)<=(m:Int):=by omega
         have KR:(m:Int)<(N1:Int):=by omega
         have lH:m<N1:=by omega
         have SK:decide ((q:Int)<(j:Int))=true:=uQ (by omega);have ck:Hid ((wr.setCell ⟨g6,j,none⟩ (aH u)).ownsRow X 9 1 (.slice (some ⟨g6,0,none⟩) N1 cap6) N1 ((o.take m++u::o.drop m).map aH)):=jq (by
          have h1:=(World.ownsRow.stored qn.out j (aH u)).1;rw[<-List.map_set] at h1;subst hm;rw[<-ze,YB zx,ze] at h1;exact h1)
         have ko:Hid (Below X wo (wr.setCell ⟨g6,j,none⟩ (aH u))):=jq (ET.out.setCell Fu.1 _);have hqm:q<=m:=by omega
         have hmN:m<=N:=by omega
         have HMJ:Hid (m<j):=jq (by omega);clear hm hu ze;unfold aH at EG gG ck ko;go_wp2_with fail;go_roundw
         case rel=>exact⟨m,u,hqm,hmN,rfl,by simp; omega,ko,ck⟩
         case measure=>have:=HMJ.out; simp[intOf] <;> omega
        ·have KE:j=q:=by omega
         subst KE;have SK:decide ((j:Int)<(j:Int))=false:=tQ (by omega);have ck:Hid ((wr.setCell ⟨g6,j,none⟩ (.string sn)).ownsRow X 9 1 (.slice (some ⟨g6,0,none⟩) N1 cap6) N1 ((o.take j++sn.data.toList::o.drop j).map aH)):=jq (by
          have h1:=(World.ownsRow.stored qn.out j (aH sn.data.toList)).1;rw[<-List.map_set,NT jx] at h1;exact h1)
         have ko:Hid (Below X wo (wr.setCell ⟨g6,j,none⟩ (.string sn))):=jq (ET.out.setCell Fu.1 _);have zr:Hid ((o.take j++sn.data.toList::o.drop j).length=N1):=jq (by rw[NS jx]; exact ix.out);unfold aH at EG;go_wp2_with fail;go_roundw
         case rel=>exact⟨k+1,_,by omega,by go_num,by simp; omega,jq (HB.out.trans ko.out),jq (by unfold cB; rw[zr.out]; exact ck.out),jq (by rw[pK.out,BG.out])⟩
         case measure=>simp[intOf] <;> omega
    ·have EU:q=N:=by omega
     have BG:Hid (Np.eZ o sn.data.toList=o.take q++sn.data.toList::o.drop q):=jq (Hh o _ q (by rw[HN.out]; exact hqN) HQ.out (λh=>by rw[HN.out] at h; omega));clear EU;obtain⟨N1,om⟩:∃ N1,o.length+1=N1:=⟨_,rfl⟩;have IJ:=HN.out;have al:IntKind.i64.wrap ((N1:Int) - 1)=(N:Int):=by rw[show (N1:Int) - 1=N by omega]; simp[IntKind.wrap,IntKind.bits,IntKind.signed]; omega
     have aPK:N+1=N1:=by omega
     have ix:=jq om;clear om IJ;have ca:=cA;have gZ:Hid (cB X wr _ o):=jq (HO.out.keep cA.out);have Ke:X<=wr.heap.size:=by omega
     go_wp2_with (first | (at_builtin; refine xU _ rfl _ _ rfl X _ o rfl (gZ.out.alloc _) wr.heap.size sn.data.toList (by simp[go_sem]) (by simp[go_sem]) (by have:=kG.out; omega) (by simp; omega) ?_; intro v6 w6 lW aW; obtain⟨g6,cap6,rfl,BN⟩:=Py lW ix.out; have IA:=jq BN; have cY:=jq ((((ca.out.mono uE).alloc Ke _).trans aW)); clear lW aW BN));have gP:X<=w6.heap.size:=by have:=cY.out.size; omega
     obtain⟨wj,Kx⟩:∃ wj,wj=w6:=⟨_,rfl⟩;clear Kx;go_loopw [7] (λjv wi=>∃ (j:Nat) (z:List UInt8),q<=j/\j<=N/\jv = .int .i64 j/\X<=wi.heap.size/\Hid (Below X wo wi)/\Hid (wi.ownsRow X 9 1 (.slice (some ⟨g6,0,none⟩) N1 cap6) N1 ((o.take j++z::o.drop j).map aH))) (λjv _=>(intOf jv).toNat)
     case atStart=>exact⟨N,sn.data.toList,by omega,bQ _,rfl,gP,cY,jq (by rw[kQ (by rw[HN.out]; exact bQ _),List.drop_eq_nil_of_le (by rw[HN.out]; exact bQ _)]; exact IA.out)⟩
     case round=>
      obtain⟨j,z,hqj,KI,rfl,eG,ET,qn⟩:=hrel;have jx:j<=o.length:=by rw[HN.out]; exact KI
      have Fu:X<=g6/\g6<wr.heap.size:=qn.out.lt g6 rfl;have EG:wr.cell? ⟨g6,j,none⟩=some (aH z):=by rw[qn.out.cellAt j (by omega),List.getElem?_map,NR jx]; rfl
      have hfj:wr.frozen? ⟨g6,j,none⟩=false:=qn.out.frozenAt j;have aUJ:(0:Int)<=(j:Int):=by omega
      have aRJ:(j:Int)<(N1:Int):=by omega
      have aqZ:j<N1:=by omega
      by_cases Sr:q<j
      ·exact absurd Sr (by omega)
      ·have KE:j=q:=by omega
       subst KE;have SK:decide ((j:Int)<(j:Int))=false:=tQ (by omega);have ck:Hid ((wr.setCell ⟨g6,j,none⟩ (.string sn)).ownsRow X 9 1 (.slice (some ⟨g6,0,none⟩) N1 cap6) N1 ((o.take j++sn.data.toList::o.drop j).map aH)):=jq (by
        have h1:=(World.ownsRow.stored qn.out j (aH sn.data.toList)).1;rw[<-List.map_set,NT jx] at h1;exact h1)
       have ko:Hid (Below X wo (wr.setCell ⟨g6,j,none⟩ (.string sn))):=jq (ET.out.setCell Fu.1 _);have zr:Hid ((o.take j++sn.data.toList::o.drop j).length=N1):=jq (by rw[NS jx]; exact ix.out);unfold aH at EG;go_wp2_with fail;go_roundw
       case rel=>exact⟨k+1,_,by omega,by go_num,by simp; omega,jq (HB.out.trans ko.out),jq (by unfold cB; rw[zr.out]; exact ck.out),jq (by rw[pK.out,BG.out])⟩
       case measure=>simp[intOf] <;> omega
  ·have HT:Hid (l.take k=l):=jq (kQ (by omega));go_wp2_with fail;go_ret;refine⟨_,rfl,?_,HB.out⟩;have h1:=HE.out;rw[HT.out] at h1;rw[h1];exact HO.out
theorem UG(v:Value)(l:List Np.Host)(w:World)(hd:SlR gW 3 w w.heap.size v l) :
 Calls prog 59 #[v] w λe w'=>e = .returned (.bool (Np.yes (Np.VHosts l)))/\Below w.heap.size w w':=by
 obtain⟨r,hr⟩:∃ r,Np.yes (Np.VHosts l)=r:=⟨_,rfl⟩;rw[hr];have HR:=jq hr;have HD:=jq hd;obtain⟨A,c,rfl,bC,bH⟩:=ag hd;clear hr hd;by_cases wM:l.length<=64
 ·have Kn:=jq wM;go_enter func59,ntmps59;go_wp2_with fail;go_loopw [3] (λi wr=>∃ k:Nat,k<=l.length/\i = .int .i64 k/\Hid (Below w.heap.size w wr)/\Hid (∀ j x,j<k->l[j]?=some x->Np.HostOk x)/\Hid (((l.take k).map (·.addr)).Nodup)) (λi _=>l.length - (intOf i).toNat)
  case atStart=>exact⟨0,jQ _,rfl,jq (vQ _ _),jq (λj x hj=>by omega),jq (by simp)⟩
  case round=>
   obtain⟨k,hk,rfl,HB,HA,CN⟩:=hrel;have dF:=HB.out.size;by_cases ab:k<l.length
   ·obtain⟨x,ac⟩:∃ x,l[k]?=some x:=⟨_,aQ ab⟩;obtain⟨b,o,sn,rfl,bg,az,bL,f0,f1,f2⟩:=tH (HD.out.keep fF HB.out) ac;have ht:l.take (k+1)=l.take k ++ [x]:=by
     obtain⟨hl,he⟩:=cQ.1 ac;rw[fQ hl,he]
    have HT:=jq ht;have HN:Hid (Np.HostOk x->∀ j y,j<k+1->l[j]?=some y->Np.HostOk y):=jq (λh j y hj hy=>by
     by_cases e:j=k
     ·subst e; rw[ac] at hy; cases hy; exact h
     ·exact HA.out j y (by omega) hy)
    have HF:Hid (¬ Np.HostOk x->r=false):=jq (λh=>by rw[<-HR.out]; exact Np.aP λq=>h (q.each x (gQ ac)));have rY:Hid (x.addr∈(l.take k).map (·.addr)->r=false):=jq (λh=>by
     rw[<-HR.out];refine Np.aP λq=>?_;have h1:=q.addrs;have h2:(l.take (k+1)).map (·.addr) <+: l.map (·.addr):=by rw[List.map_take]; exact List.take_prefix _ _
     have h3:=h1.sublist h2.sublist;rw[ht,List.map_append,List.nodup_append] at h3;exact h3.2.2 x.addr h x.addr (by simp) rfl)
    have aS:=jq az;have ei:Hid (∀ o,Below wr.heap.size wr (wr.alloc o)):=jq (λo=>(vQ _ _).alloc (bQ _) _);obtain⟨w2,ai⟩:∃ w2,wr.alloc (.cells #[.string sn,.int .i64 x.addr,.int .i64 x.owner] 64)=w2:=⟨_,rfl⟩;have aa:Below wr.heap.size wr w2:=by rw[<-ai]; exact ei.out _
    have p0:w2.cell? ⟨wr.heap.size,0,none⟩=some (.string sn):=by rw[<-ai]; simp[go_sem]
    have p1:w2.cell? ⟨wr.heap.size,1,none⟩=some (.int .i64 x.addr):=by rw[<-ai]; simp[go_sem]
    have p2:w2.cell? ⟨wr.heap.size,2,none⟩=some (.int .i64 x.owner):=by rw[<-ai]; simp[go_sem]
    have aN:wr.heap.size<w2.heap.size:=by rw[<-ai]; simp
    have ak:=jq aa;have bW:(0:Int)<=(k:Int):=by omega
    have bV:(k:Int)<(l.length:Int):=by omega
    clear ac az ht aa;go_wp2_with fail;clear ai f0 f1 f2;refine (tq sn bL _).mono ?_;rintro e w3 ⟨rfl,ah⟩;have dP:=ah.size;have av:=jq (ak.out.trans (ah.mono (by omega)));replace p0:w3.cell? ⟨wr.heap.size,0,none⟩=some (.string sn):=(ah.cell (by simpa using aN)).trans p0;replace p1:w3.cell? ⟨wr.heap.size,1,none⟩=some (.int .i64 x.addr):=(ah.cell (by simpa using aN)).trans p1;replace p2:w3.cell? ⟨wr.heap.size,2,none⟩=some (.int .i64 x.owner):=(ah.cell (by simpa using aN)).trans p2;clear ah
    cases lT:Np.aG sn.data.toList with
    | false=>
     have HX:Hid (r=false):=jq (HF.out λh=>by have:=h.name; rw[<-aS.out,lT] at this; cases this);clear lT;go_wp2_with fail;go_ret;exact⟨aj HX.out.symm,HB.out.trans (av.out.mono (by omega))⟩
    | true=>
     have iO:=jq lT;clear lT;go_wp2_with fail;refine (Mf sn iO.out _).mono ?_;rintro e w4 ⟨rfl,am⟩;have ga:=am.size;have bD:=jq (av.out.trans (am.mono (by omega)));replace p1:w4.cell? ⟨wr.heap.size,1,none⟩=some (.int .i64 x.addr):=(am.cell (by dsimp only; omega)).trans p1;replace p2:w4.cell? ⟨wr.heap.size,2,none⟩=some (.int .i64 x.owner):=(am.cell (by dsimp only; omega)).trans p2;clear am p0
     cases rW:Np.fp sn.data.toList with
     | true=>
      have HX:Hid (r=false):=jq (HF.out λh=>by have:=h.wild; rw[<-aS.out,rW] at this; cases this);clear rW;go_wp2_with fail;go_ret;exact⟨aj HX.out.symm,HB.out.trans (bD.out.mono (by omega))⟩
     | false=>
      have xJ:=jq rW;clear rW;have td:decide (x.addr<1)=true\/decide (x.addr<1)=false/\(decide (1000000<x.addr)=true\/decide (1000000<x.addr)=false/\(decide (x.owner<0)=true\/decide (x.owner<0)=false/\(decide (31<x.owner)=true\/decide (31<x.owner)=false))):=by
       simp only[Qa,decide_eq_false_iff_not]; omega
      rcases td with d1 | ⟨d1,d2 | ⟨d2,d3 | ⟨d3,d4 | d4⟩⟩⟩
      rotate_right
      ·have bZ:Hid (Np.HostOk x):=jq (by
        simp only[decide_eq_false_iff_not] at d1 d2 d3 d4;exact⟨by rw[<-aS.out]; exact iO.out,by rw[<-aS.out]; exact xJ.out,by omega,by omega⟩)
       go_wp2_with fail;obtain⟨wo,rfl⟩:∃ wo,wo=wr:=⟨_,rfl⟩;go_loopw [6] (λi wx=>∃ m:Nat,m<=k/\i = .int .i64 m/\Hid (Below w4.heap.size w4 wx)/\Hid (∀ j y,j<m->l[j]?=some y->y.addr≠x.addr)) (λi _=>k - (intOf i).toNat)
       case atStart=>exact⟨0,jQ _,rfl,jq (vQ _ _),jq (λj y hj=>by omega)⟩
       case round=>
        obtain⟨m,hm,rfl,dI,HX⟩:=hrel;have Lo:=dI.out.size;have q1:wr.cell? ⟨wo.heap.size,1,none⟩=some (.int .i64 x.addr):=(dI.out.cell (by dsimp only; omega)).trans p1;have ay:Hid (Below wo.heap.size wo wr):=jq (bD.out.trans (dI.out.mono (by omega)));by_cases Fx:m<k
        ·obtain⟨y,dM⟩:∃ y,l[m]?=some y:=⟨_,aQ (by omega)⟩;obtain⟨b9,o9,sy,RX,_,_,_,_,g1,_⟩:=tH (HD.out.keep fF (HB.out.trans (ay.out.mono (by omega)))) dM;simp only[Option.some.injEq,Addr.mk.injEq,and_true] at RX;obtain⟨rfl,rfl⟩:=RX;have kV:(0:Int)<=(m:Int):=by omega
         have KR:(m:Int)<(l.length:Int):=by omega
         have gL:decide ((m:Int)<(k:Int))=true:=by simp; omega
         by_cases he:y.addr=x.addr
         ·have HY:Hid (r=false):=jq (rY.out (List.mem_map.2 ⟨y,List.mem_iff_getElem?.2 ⟨m,by rw[List.getElem?_take,Qb Fx]; exact dM⟩,he⟩));have ge:(y.addr == x.addr)=true:=by simpa using he
          clear he dM;go_wp2_with fail;go_quiet (fail);go_wp2_with fail;go_ret;exact⟨aj HY.out.symm,below_drewN (HB.out.trans (ay.out.mono (by omega))) _⟩
         ·have HY:Hid (∀ j z,j<m+1->l[j]?=some z->z.addr≠x.addr):=jq (λj z hj hz=>by
           by_cases e:j=m
           ·subst e; rw[dM] at hz; cases hz; exact he
           ·exact HX.out j z (by omega) hz)
          have ge:(y.addr == x.addr)=false:=by simpa using he
          clear he dM;go_wp2_with fail;go_quiet (fail);go_wp2_with fail;go_roundw
          case rel=>exact⟨m+1,by omega,by go_num,jq (below_drewN dI.out _),HY⟩
          case measure=>simp[intOf] <;> omega
        ·have gL:decide ((m:Int)<(k:Int))=false:=by simp; omega
         have I9:Hid (((l.take (k+1)).map (·.addr)).Nodup):=jq (by
          rw[HT.out,List.map_append,List.nodup_append];refine⟨CN.out,by simp,λy hy z hz e=>?_⟩;simp at hz;obtain⟨u,hu,ze⟩:=List.mem_map.1 hy;obtain⟨j,hj,rfl⟩:=nQ.1 hu;rw[List.length_take] at hj;rw[List.getElem_take] at ze;exact HX.out j _ (by omega) (aQ (by omega)) (by rw[ze,e,hz]))
         go_wp2_with fail;go_roundw
         case rel=>exact⟨k+1,by omega,by go_num,jq (HB.out.trans (ay.out.mono (by omega))),jq (HN.out bZ.out),I9⟩
         case measure=>simp[intOf] <;> omega
      all_goals
       have HX:Hid (r=false):=jq (HF.out λh=>by
        have h1:=h.addr;have h2:=h.owner;simp only[Qa,decide_eq_false_iff_not] at *;omega)
       go_wp2_with fail;go_ret;exact⟨aj HX.out.symm,HB.out.trans (bD.out.mono (by omega))⟩
   ·go_wp2_with fail;go_ret;refine⟨aj ?_,HB.out⟩;rw[<-HR.out];refine (Np.bO ⟨Kn.out,λx hx=>?_,?_⟩).symm
    ·obtain⟨j,hj,rfl⟩:=nQ.1 hx;exact HA.out j _ (by omega) (aQ hj)
    ·have:=CN.out
     rwa [kQ (by omega)] at this
 ·have HX:Hid (r=false):=jq (by rw[<-HR.out]; exact Np.aP λq=>wM q.few);have aOY:64<l.length:=by omega
  clear wM;go_enter func59,ntmps59;go_wp2_with fail;go_ret;exact⟨aj HX.out.symm,vQ _ _⟩
theorem Zw{x:List UInt8}(h:Np.aG x=true):x≠[]:=by
 rintro rfl;revert h;decide
def abK(w1:World)(apex:List UInt8)(l:List Np.Signed)(i:Value)(wr:World):Prop:=
 ∃ k:Nat,k<=l.length/\i = .int .i64 k/\Below w1.heap.size w1 wr/\Hid (∀ j x,j<k->l[j]?=some x->Np.ee x.set=true)/\Hid (Np.kc apex none l=Np.kc apex (pF l k) (l.drop k))
theorem Wj(a:ByteArray)(ha:a.size<=140737488355328)(v:Value)(l:List Np.Signed)(cu:l.length<=20000)(w:World)(hd:SlR bK 5 w w.heap.size v l) :
 Calls prog 112 #[.agg #[.string a,v]] w λe w'=>e = .returned (.bool (Np.fm ⟨a.data.toList,l⟩))/\Below w.heap.size w w':=by
 have HD:=jq hd;obtain⟨A,c,rfl,bC,bH,-⟩:=hd;have HW:Hid (∀ o,Below w.heap.size w (w.alloc o)):=jq (λo=>(vQ _ w).alloc (bQ _) _);go_enter func112,ntmps112;go_wp2_with fail;refine (tq _ ha _).mono ?_;rintro e w1 ⟨rfl,hb⟩;have c0:w1.cell? ⟨w.heap.size,0,none⟩=some (.string a):=by rw[hb.cell (by simp)]; go_simp
 have c1:w1.cell? ⟨w.heap.size,1,none⟩=some (.slice A l.length c):=by rw[hb.cell (by simp)]; go_simp
 have fh:w.heap.size<w1.heap.size:=by have:=hb.size; simp at this; omega
 have aF:=jq ((HW.out _).trans (hb.mono (by simp)));clear hb
 cases rx:Np.aG a.data.toList with
 | false=>
  have HF:Hid (Np.fm ⟨a.data.toList,l⟩=false):=jq (by unfold Np.fm; rw[rx]; rfl);clear rx;go_wp2_with fail;go_ret;exact⟨aj HF.out.symm,aF.out⟩
 | true=>
  have zt:=jq rx;have haz:=ye rx;clear rx;go_wp2_with fail;refine (Mf a zt.out _).mono ?_;rintro e w0 ⟨rfl,da⟩;have Ko:=da.size;replace c0:w0.cell? ⟨w.heap.size,0,none⟩=some (.string a):=(da.cell (by simpa using fh)).trans c0;replace c1:w0.cell? ⟨w.heap.size,1,none⟩=some (.slice A l.length c):=(da.cell (by simpa using fh)).trans c1;replace aF:=jq (aF.out.trans (da.mono (by omega)));replace fh:w.heap.size<w0.heap.size:=by omega
  clear da Ko;obtain⟨w1,rfl⟩:∃ w1,w1=w0:=⟨_,rfl⟩
  cases sm:Np.fp a.data.toList with
  | true=>
   have HF:Hid (Np.fm ⟨a.data.toList,l⟩=false):=jq (by unfold Np.fm; rw[sm]; simp);go_wp2_with (go_at_call 178; refine (Dj a ha _).mono ?_; rintro e w' ⟨rfl,rfl⟩);go_ret;exact⟨aj HF.out.symm,aF.out⟩
  | false=>
   have HF:Hid (Np.fm ⟨a.data.toList,l⟩=Np.kc a.data.toList none l):=jq (by unfold Np.fm; rw[sm,zt.out]; simp);go_wp2_with (go_at_call 178; refine (Dj a ha _).mono ?_; rintro e w' ⟨rfl,rfl⟩);clear sm;go_loopw [3] (λi wr=>abK w1 a.data.toList l i wr) (λi _=>l.length - (intOf i).toNat)
   case atStart=>exact⟨0,jQ _,rfl,vQ _ _,jq (λj x hj=>by omega),jq rfl⟩
   case round=>
    obtain⟨k,hk,rfl,aw,HV,HG⟩:=hrel;have aKY:=aw.size;have d0:wr.cell? ⟨w.heap.size,0,none⟩=some (.string a):=by rw[aw.cell (by simpa using fh)]; exact c0
    have d1:wr.cell? ⟨w.heap.size,1,none⟩=some (.slice A l.length c):=by rw[aw.cell (by simpa using fh)]; exact c1
    have dF:w.heap.size<wr.heap.size:=by omega
    by_cases ab:k<l.length
    ·have mj:Below w.heap.size w wr:=aF.out.trans (aw.mono (by omega));have ac:=aQ ab;obtain⟨b,o,c',sn,dv,sv,hA,bg,_,az,an,bd,aL,e0,e1,e2,e3,e4⟩:=eT (HD.out.keep aV mj) ac
     cases hA
     generalize hx:l[k]=x at *;clear hx;obtain⟨Ad,cd,rfl,Jm,hld⟩:=ag bd;have lZ:=jq bd;have HX:=jq ac;have uD:(⟨sn.data.toList,x.set.type,x.set.life,x.set.data⟩:Np.DSet)=x.set:=by rw[az]
     have S7:=jq uD;have aS:=jq az;have ay:=jq aw;have za:=jq mj;have xi:=jq (HG.out.trans (Om ac (pF l k)));clear bd aL ac az aw mj c0 c1 uD e4;go_wp2_with fail;have ni:Below wr.heap.size wr (wr.alloc (.cells #[.string sn,.int .i64 x.set.type,.int .i64 x.set.life,.slice Ad x.set.data.length cd] 26)):=(vQ _ _).alloc (bQ _) _;have p0:=World.cell?_alloc_new wr #[.string sn,.int .i64 x.set.type,.int .i64 x.set.life,.slice Ad x.set.data.length cd] 26 0;have p1:=World.cell?_alloc_new wr #[.string sn,.int .i64 x.set.type,.int .i64 x.set.life,.slice Ad x.set.data.length cd] 26 1;have p2:=World.cell?_alloc_new wr #[.string sn,.int .i64 x.set.type,.int .i64 x.set.life,.slice Ad x.set.data.length cd] 26 2;have p3:=World.cell?_alloc_new wr #[.string sn,.int .i64 x.set.type,.int .i64 x.set.life,.slice Ad x.set.data.length cd] 26 3;have mv:wr.heap.size<(wr.alloc (.cells #[.string sn,.int .i64 x.set.type,.int .i64 x.set.life,.slice Ad x.set.data.length cd] 26)).heap.size:=by simp
     generalize wr.alloc (.cells #[.string sn,.int .i64 x.set.type,.int .i64 x.set.life,.slice Ad x.set.data.length cd] 26)=wa at ni p0 p1 p2 p3 mv |-;have ei:=jq ni;have xH:=jq (za.out.trans (ni.mono (by omega)));replace d0:wa.cell? ⟨w.heap.size,0,none⟩=some (.string a):=by rw[ni.cell (by simpa using dF)]; exact d0
     replace d1:wa.cell? ⟨w.heap.size,1,none⟩=some (.slice (some ⟨b,o,none⟩) l.length c):=by rw[ni.cell (by simpa using dF)]; exact d1
     replace p0:wa.cell? ⟨wr.heap.size,0,none⟩=some (.string sn):=p0;replace p1:wa.cell? ⟨wr.heap.size,1,none⟩=some (.int .i64 x.set.type):=p1;replace p2:wa.cell? ⟨wr.heap.size,2,none⟩=some (.int .i64 x.set.life):=p2;replace p3:wa.cell? ⟨wr.heap.size,3,none⟩=some (.slice Ad x.set.data.length cd):=p3;have kq:∀ (g:bE wa) (p:Addr),p.block<wa.heap.size->g.w.cell? p=wa.cell? p:=λg p h=>g.cell p h;have a7J:w.heap.size<wa.heap.size:=by omega
     have bgQ:b<wa.heap.size:=by omega
     have HDW:=jq ((lZ.out.keep cL (ei.out.mono (by omega))).more dp (show w.heap.size<=wa.heap.size by omega));clear ni e0 e1 e2 e3;have bT:∀ g:bE wa,Calls prog 111 #[.agg #[.string sn,.int .i64 x.set.type,.int .i64 x.set.life,.slice Ad x.set.data.length cd]] g.w λe w'=>e = .returned (.bool (Np.ee x.set))/\Below g.w.heap.size g.w w':=λg=>by
      rw[<-S7.out];exact LN sn an _ _ _ x.set.data _ (HDW.out.later cL dp g.below)
     cases fZ:Np.ee x.set with
     | false=>
      rw[fZ] at bT;have iC:=jq bT;have lh:=jq fZ;clear bT fZ;refine en (by kernel_rfl) (by kernel_rfl) ?_
      repeat (go_big_quiet_step ((go_at_call 111; exact Calls.grow_of (iC.out _))))
      refine wpQuiet_nil ?_;rintro _ ⟨g,rfl⟩;go_wp2_with fail;go_ret;refine⟨aj ?_,xH.out.trans (g.below.mono (by omega))⟩;rw[HF.out,xi.out,lh.out,Bool.and_false]; rfl
     | true=>
      rw[fZ] at bT;have iC:=jq bT;have lh:=jq fZ;have lT:Np.aG sn.data.toList=true:=by rw[aS.out]; exact (Np.xY fZ).1
      have iO:=jq lT;have a4X:=ye lT;have hin:∀ g:bE wa,Calls prog 181 #[.string sn,.string a] g.w λe w'=>e = .returned (.bool (Np.bG sn.data.toList a.data.toList))/\Below g.w.heap.size g.w w':=λg=>by
       rw[<-Np.Ak (Zw zt.out)];exact DF sn a (by omega) (by omega) _
      have CH:∀ j y,j<k+1->l[j]?=some y->Np.ee y.set=true:=λj y hj hy=>by
       by_cases e:j=k
       ·subst e; rw[HX.out] at hy; cases hy; exact fZ
       ·exact HV.out j y (by omega) hy
      have rr:=jq CH;clear bT fZ lT CH
      cases gl:Np.bG sn.data.toList a.data.toList with
      | false=>
       rw[gl] at hin;have nh:=jq hin;have BR:=jq gl;clear gl hin;refine en (by kernel_rfl) (by kernel_rfl) ?_
       repeat (go_big_quiet_step (first
        | (go_at_call 111; exact Calls.grow_of (iC.out _))
        | (go_at_call 181; exact Calls.grow_of (nh.out _))))
       refine wpQuiet_nil ?_;rintro _ ⟨g,rfl⟩;go_wp2_with fail;go_ret;refine⟨aj ?_,xH.out.trans (g.below.mono (by omega))⟩;rw[HF.out,xi.out,<-aS.out,iO.out,BR.out]; rfl
      | true=>
       rw[gl] at hin;have nh:=jq hin;have Bm:Np.kc a.data.toList none l=((match pF l k with | none=>true | some q=>decide (Np.io q x.set<0))&&Np.kc a.data.toList (pF l (k+1)) (l.drop (k+1))):=by
        rw[xi.out,<-aS.out,iO.out,gl,lh.out,Dn HX.out]; rfl
       have ck:=jq Bm;clear gl hin Bm;by_cases bW:k=0
       ·subst bW;refine en (by kernel_rfl) (by kernel_rfl) ?_
        repeat (go_big_quiet_step (first
         | (go_at_call 111; exact Calls.grow_of (iC.out _))
         | (go_at_call 181; exact Calls.grow_of (nh.out _))))
        refine wpQuiet_nil ?_;rintro _ ⟨g,rfl⟩;go_wp2_with fail;go_roundw
        case rel=>exact⟨1,by omega,by go_num,ay.out.trans ((ei.out.trans (g.below.mono (by omega))).mono ay.out.size),rr,jq (by rw[ck.out]; rfl)⟩
        case measure=>simp[intOf] <;> omega
       ·obtain⟨i,rfl⟩:∃ i,k=i+1:=⟨k - 1,by omega⟩;have sk:=aQ (show i<l.length by omega);obtain⟨b',o',c'',sq,dq,sg,pZ,xP,_,ll,Tj,Bg,_,f0,f1,f2,f3,_⟩:=eT ((HD.out.keep aV xH.out)) sk
        cases pZ
        generalize hy:l[i]=y at *;clear hy;obtain⟨Aq,cq,rfl,hcq,QI⟩:=ag Bg;have RJ:(⟨sq.data.toList,y.set.type,y.set.life,y.set.data⟩:Np.DSet)=y.set:=by rw[ll]
        have R6:Np.aG sq.data.toList=true:=by rw[ll]; exact (Np.xY (HV.out i y (by omega) sk)).1
        have Sb:pF l (i+1)=some y.set:=Dn sk;have vV:=jq Sb;have SF:∀ g:bE wa,Calls prog 182 #[.agg #[.string sq,.int .i64 y.set.type,.int .i64 y.set.life,.slice Aq y.set.data.length cq],.agg #[.string sn,.int .i64 x.set.type,.int .i64 x.set.life,.slice Ad x.set.data.length cd]] g.w λe w'=>e = .returned (.int .i64 (Np.io y.set x.set))/\Below g.w.heap.size g.w w':=λg=>by
         have:=Tx sq sn y.set.type y.set.life x.set.type x.set.life (.slice Aq y.set.data.length cq) (.slice Ad x.set.data.length cd) y.set.data x.set.data R6 iO.out g.w
         rw[RJ,S7.out] at this;exact this
        have RR:=jq SF;clear RJ Sb Bg ll sk SF R6;have nj:(0:Int)<=(i:Int):=by omega
        have sK:(i:Int)<(l.length:Int):=by omega
        have adJ:(0:Int)<(((i+1:Nat)):Int):=by omega
        have al:IntKind.i64.wrap (((i+1:Nat):Int) - 1)=(i:Int):=by rw[IntWalk.i64_in _ (by omega)]; omega
        by_cases gG:Np.io y.set x.set<0
        ·have lJ:=jq (uQ gG);have Lv:¬ (0<=Np.io y.set x.set):=by omega
         refine en (by kernel_rfl) (by kernel_rfl) ?_
         repeat (go_big_quiet_step (first
          | (go_at_call 111; exact Calls.grow_of (iC.out _))
          | (go_at_call 181; exact Calls.grow_of (nh.out _))
          | (go_at_call 182; exact Calls.grow_of (RR.out _))))
         refine wpQuiet_nil ?_;rintro _ ⟨g,rfl⟩;go_wp2_with fail;go_roundw
         case rel=>
          refine⟨i+1+1,by omega,by go_num,ay.out.trans ((ei.out.trans (g.below.mono (by omega))).mono ay.out.size),rr,jq ?_⟩;rw[ck.out,vV.out];simp only[lJ.out,Bool.true_and]
         case measure=>simp[intOf] <;> omega
        ·have lJ:=jq (tQ gG);have Lv:0<=Np.io y.set x.set:=by omega
         refine en (by kernel_rfl) (by kernel_rfl) ?_
         repeat (go_big_quiet_step (first
          | (go_at_call 111; exact Calls.grow_of (iC.out _))
          | (go_at_call 181; exact Calls.grow_of (nh.out _))
          | (go_at_call 182; exact Calls.grow_of (RR.out _))))
         refine wpQuiet_nil ?_;rintro _ ⟨g,rfl⟩;go_wp2_with fail;go_ret;refine⟨aj ?_,xH.out.trans (g.below.mono (by omega))⟩;rw[HF.out,ck.out,vV.out];simp only[lJ.out,Bool.false_and]
    ·go_wp2_with fail;go_ret;refine⟨aj ?_,aF.out.trans (aw.mono (by omega))⟩;rw[HF.out,HG.out,List.drop_eq_nil_of_le (by omega)];rfl
theorem L1(t:Int)(b:Bool)(w:World) :
 Calls prog 184 #[.int .i64 t,.bool b] w λe w'=>e = .returned (.bool (Np.kj t b))/\w=w':=by
 by_cases h3:t=3
 ·subst h3
  cases b
  all_goals
   go_enter func184,ntmps184;go_wp2_with fail;go_ret;exact⟨rfl,rfl⟩
 ·by_cases h6:t=6
  ·subst h6
   cases b
   all_goals
    go_enter func184,ntmps184;go_wp2_with fail;go_ret;exact⟨rfl,rfl⟩
  ·by_cases h4:t=4
   ·subst h4
    cases b
    all_goals
     go_enter func184,ntmps184;go_wp2_with fail;go_ret;exact⟨rfl,rfl⟩
   ·by_cases h7:t=7
    ·subst h7
     cases b
     all_goals
      go_enter func184,ntmps184;go_wp2_with fail;go_ret;exact⟨rfl,rfl⟩
    ·have HF:Hid (Np.kj t b=true):=jq (by unfold Np.kj; rw[Qc (by omega),Qc (by omega)]);have g3:(t != 3)=true:=by simpa using h3
     have g6:(t != 6)=true:=by simpa using h6
     have g4:(t != 4)=true:=by simpa using h4
     have g7:(t != 7)=true:=by simpa using h7
     rw[HF.out];clear h3 h6 h4 h7
     cases b
     all_goals
      go_enter func184,ntmps184;go_wp2_with fail;go_ret;exact⟨rfl,rfl⟩
def Np.atI(l:List Np.Signed)(n:List UInt8)(t:Int):Int:=match l.findIdx? λx=>(x.set.name == n)&&decide (x.set.type=t) with | none=>-1 | some i=>i
theorem OV{l:List Np.Signed}{n:List UInt8}{t:Int}(h:∀ (j:Nat) (x:Np.Signed),l[j]?=some x->¬ (x.set.name=n/\x.set.type=t)):Np.atI l n t = -1:=by
 unfold Np.atI
 have:l.findIdx? (λx=>(x.set.name == n)&&decide (x.set.type=t))=none:=by
  rw[List.findIdx?_eq_none_iff];intro x hx;obtain⟨j,hj,rfl⟩:=nQ.1 hx
  have:=h j _ (aQ hj)
  rw[Bool.and_eq_false_iff];by_cases e:l[j].set.name=n
  ·right; simpa using λe2=>this ⟨e,e2⟩
  ·left; simpa using e
 rw[this]
theorem Zf{l:List Np.Signed}{n:List UInt8}{t:Int}{k:Nat}{x:Np.Signed}(hx:l[k]?=some x)(he:x.set.name=n/\x.set.type=t)(h:∀ (j:Nat) (y:Np.Signed),j<k->l[j]?=some y->¬ (y.set.name=n/\y.set.type=t)):Np.atI l n t=k:=by
 unfold Np.atI;obtain⟨hk,rfl⟩:=cQ.1 hx
 have:l.findIdx? (λx=>(x.set.name == n)&&decide (x.set.type=t))=some k:=by
  rw[List.findIdx?_eq_some_iff_getElem];refine⟨hk,by simp[he.1,he.2],λj hj=>?_⟩
  have:=h j _ hj (aQ (by omega))
  simpa using this
 rw[this]
theorem Pc(l:List Np.Signed)(n:List UInt8)(t:Int):(Np.atI l n t<0)↔¬ Np.kf l n t:=by
 by_cases h:Np.kf l n t
 ·obtain⟨x,hx,h1,h2⟩:=h;refine⟨λab=>?_,λhn=>absurd ⟨x,hx,h1,h2⟩ hn⟩;unfold Np.atI at ab
  cases hf:l.findIdx? (λx=>(x.set.name == n)&&decide (x.set.type=t)) with
  | none=>
   rw[List.findIdx?_eq_none_iff] at hf
   have:=hf x hx
   simp[h1,h2] at this
  | some i=>rw[hf] at ab; dsimp only at ab; omega
 ·refine⟨λ_=>h,λ_=>?_⟩;rw[OV (λj x hx he=>h ⟨x,gQ hx,he⟩)];decide
theorem NX(a:ByteArray)(v:Value)(l:List Np.Signed)(q:ByteArray)(t:Int)(w:World)(hd:SlR bK 5 w w.heap.size v l) :
 Calls prog 183 #[.agg #[.string a,v],.agg #[.string q,.int .i64 t]] w λe w'=>e = .returned (.int .i64 (Np.atI l q.data.toList t))/\Below w.heap.size w w':=by
 obtain⟨r,hr⟩:∃ r,Np.atI l q.data.toList t=r:=⟨_,rfl⟩;rw[hr];have HR:=jq hr;have HD:=jq hd;obtain⟨A,c,rfl,bC,bH⟩:=ag hd;clear hr hd;have HW:Hid (∀ o o',Below w.heap.size w ((w.alloc o).alloc o')):=jq (λo o'=>((vQ _ w).alloc (bQ _) _).alloc (by simp) _);go_enter func183,ntmps183;go_wp2_with fail;obtain⟨w1,al⟩:∃ w1,(w.alloc (.cells #[.string a,.slice A l.length c] 56)).alloc (.cells #[.string q,.int .i64 t] 84)=w1:=⟨_,rfl⟩;have c1:w1.cell? ⟨w.heap.size,1,none⟩=some (.slice A l.length c):=by rw[<-al]; simp[go_sem]
 have q0:w1.cell? ⟨w.heap.size+1,0,none⟩=some (.string q):=by rw[<-al]; simp[go_sem]
 have q1:w1.cell? ⟨w.heap.size+1,1,none⟩=some (.int .i64 t):=by rw[<-al]; simp[go_sem]
 have bI:w1.heap.size=w.heap.size+2:=by rw[<-al]; simp
 have aF:Hid (Below w.heap.size w w1):=jq (by rw[<-al]; exact HW.out _ _);rw[al];clear al;go_loopw [5] (λi wr=>∃ k:Nat,k<=l.length/\i = .int .i64 k/\Hid (Below w1.heap.size w1 wr)/\Hid (∀ j x,j<k->l[j]?=some x->¬ (x.set.name=q.data.toList/\x.set.type=t))) (λi _=>l.length - (intOf i).toNat)
 case atStart=>exact⟨0,jQ _,rfl,jq (vQ _ _),jq (λj g hj=>by omega)⟩
 case round=>
  obtain⟨k,hk,rfl,HB,HA⟩:=hrel;have an:=HB.out.size;have d1:wr.cell? ⟨w.heap.size,1,none⟩=some (.slice A l.length c):=(HB.out.cell (by dsimp only; omega)).trans c1;have e0:wr.cell? ⟨w.heap.size+1,0,none⟩=some (.string q):=(HB.out.cell (by dsimp only; omega)).trans q0;have e1:wr.cell? ⟨w.heap.size+1,1,none⟩=some (.int .i64 t):=(HB.out.cell (by dsimp only; omega)).trans q1;have aD:=jq (aF.out.trans (HB.out.mono (by omega)));have dF:w.heap.size+1<wr.heap.size:=by omega
  by_cases ab:k<l.length
  ·obtain⟨x,ac⟩:∃ x,l[k]?=some x:=⟨_,aQ ab⟩;obtain⟨b,o,c',sn,dv,sv,hA,bg,_,az,bL,bd,aL,f0,f1,f2,f3,f4⟩:=eT (HD.out.keep aV aD.out) ac
   cases hA
   have HX:=jq ac;have aS:=jq az;have ir:Hid (¬ (x.set.name=q.data.toList/\x.set.type=t)->∀ j y,j<k+1->l[j]?=some y->¬ (y.set.name=q.data.toList/\y.set.type=t)):=jq (λh j y hj hy=>by
    by_cases e:j=k
    ·subst e; rw[ac] at hy; cases hy; exact h
    ·exact HA.out j y (by omega) hy)
   have bW:(0:Int)<=(k:Int):=by omega
   have bV:(k:Int)<(l.length:Int):=by omega
   have aq:b<wr.heap.size:=by omega
   obtain⟨b1,Rj⟩:∃ b1,(sn.toList == q.toList)=b1:=⟨_,rfl⟩;obtain⟨b2,aBZ⟩:∃ b2,(x.set.type == t)=b2:=⟨_,rfl⟩;have H1:Hid (b1=true↔x.set.name=q.data.toList):=jq (by rw[<-Rj,dQ,dQ,az,beq_iff_eq]);have H2:Hid (b2=true↔x.set.type=t):=jq (by rw[<-aBZ,beq_iff_eq]);clear ac az bd aL f2 f3 f4
   cases b1 with
   | false=>
    have HN:=jq (ir.out λh=>by have:=H1.out.2 h.1; cases this);go_wp2_with fail;go_quiet (fail);go_wp2_with fail;go_roundw
    case rel=>exact⟨k+1,by omega,by go_num,jq (below_drewN HB.out _),jq HN.out⟩
    case measure=>simp[intOf] <;> omega
   | true=>
    cases b2 with
    | false=>
     have HN:=jq (ir.out λh=>by have:=H2.out.2 h.2; cases this);go_wp2_with fail;go_quiet (fail);go_wp2_with fail;go_roundw
     case rel=>exact⟨k+1,by omega,by go_num,jq (below_drewN HB.out _),jq HN.out⟩
     case measure=>simp[intOf] <;> omega
    | true=>
     have HF:Hid (r=k):=jq (by rw[<-HR.out]; exact Zf HX.out ⟨H1.out.1 rfl,H2.out.1 rfl⟩ HA.out);go_wp2_with fail;go_quiet (fail);go_wp2_with fail;go_ret;exact⟨ik HF.out.symm,below_drewN aD.out _⟩
  ·have HF:Hid (r = -1):=jq (by rw[<-HR.out]; exact OV λj x hx=>HA.out j x (by have:=(cQ.1 hx).1; omega) hx);go_wp2_with fail;go_ret;exact⟨ik HF.out.symm,aD.out⟩
theorem Wg(a:ByteArray)(v:Value)(l:List Np.Signed)(w:World)(hd:SlR bK 5 w w.heap.size v l) :
 Calls prog 113 #[.agg #[.string a,v]] w λe w'=>e = .returned (.bool (Np.yes (Np.ApexH a.data.toList l)))/\Below w.heap.size w w':=by
 obtain⟨r,hr⟩:∃ r,Np.yes (Np.ApexH a.data.toList l)=r:=⟨_,rfl⟩;rw[hr];have HR:=jq hr;have HD:=jq hd;obtain⟨A,c,rfl,bC,bH⟩:=ag hd;clear hr hd;have HW:Hid (∀ o,Below w.heap.size w (w.alloc o)):=jq (λo=>(vQ _ w).alloc (bQ _) _);go_enter func113,ntmps113;go_wp2_with fail;obtain⟨w1,al⟩:∃ w1,w.alloc (.cells #[.string a,.slice A l.length c] 56)=w1:=⟨_,rfl⟩;have c0:w1.cell? ⟨w.heap.size,0,none⟩=some (.string a):=by rw[<-al]; simp[go_sem]
 have c1:w1.cell? ⟨w.heap.size,1,none⟩=some (.slice A l.length c):=by rw[<-al]; simp[go_sem]
 have bI:w1.heap.size=w.heap.size+1:=by rw[<-al]; simp
 have aF:Hid (Below w.heap.size w w1):=jq (by rw[<-al]; exact HW.out _);rw[al];clear al;refine (NX a _ l a 4 _ (HD.out.later aV bR aF.out)).mono ?_;rintro e w2 ⟨rfl,aa⟩;have aN:=aa.size;have ak:=jq (aF.out.trans (aa.mono (by omega)));replace c0:w2.cell? ⟨w.heap.size,0,none⟩=some (.string a):=(aa.cell (by dsimp only; omega)).trans c0;replace c1:w2.cell? ⟨w.heap.size,1,none⟩=some (.slice A l.length c):=(aa.cell (by dsimp only; omega)).trans c1;clear aa;obtain⟨i4,Kv⟩:∃ i,Np.atI l a.data.toList 4=i:=⟨_,rfl⟩;have H4:Hid (i4<0↔¬ Np.kf l a.data.toList 4):=jq (by rw[<-Kv]; exact Pc _ _ _);rw[Kv];clear Kv;by_cases h4:i4<0
 ·have HX:Hid (r=false):=jq (by rw[<-HR.out]; exact Np.aP λh=>H4.out.1 h4 h.start);go_wp2_with fail;go_ret;exact⟨aj HX.out.symm,ak.out⟩
 ·have qL:Hid (Np.kf l a.data.toList 4):=jq (Classical.not_not.1 λh=>h4 (H4.out.2 h));go_wp2_with fail;refine (NX a _ l a 2 _ (HD.out.later aV bR ak.out)).mono ?_;rintro e w3 ⟨rfl,ah⟩;have dP:=ah.size;have av:=jq (ak.out.trans (ah.mono (by omega)));replace c0:w3.cell? ⟨w.heap.size,0,none⟩=some (.string a):=(ah.cell (by dsimp only; omega)).trans c0;replace c1:w3.cell? ⟨w.heap.size,1,none⟩=some (.slice A l.length c):=(ah.cell (by dsimp only; omega)).trans c1;clear ah;obtain⟨i2,wR⟩:∃ i,Np.atI l a.data.toList 2=i:=⟨_,rfl⟩;have H2:Hid (i2<0↔¬ Np.kf l a.data.toList 2):=jq (by rw[<-wR]; exact Pc _ _ _);rw[wR];clear wR;by_cases h2:i2<0
  ·have HX:Hid (r=false):=jq (by rw[<-HR.out]; exact Np.aP λh=>H2.out.1 h2 h.server);go_wp2_with fail;go_ret;exact⟨aj HX.out.symm,av.out⟩
  ·have dg:Hid (Np.kf l a.data.toList 2):=jq (Classical.not_not.1 λh=>h2 (H2.out.2 h));go_wp2_with fail;go_loopw [3] (λi wr=>∃ k:Nat,k<=l.length/\i = .int .i64 k/\Hid (Below w3.heap.size w3 wr)/\Hid (∀ j x,j<k->l[j]?=some x->Np.kj x.set.type (x.set.name == a.data.toList)=true)) (λi _=>l.length - (intOf i).toNat)
   case atStart=>exact⟨0,jQ _,rfl,jq (vQ _ _),jq (λj g hj=>by omega)⟩
   case round=>
    obtain⟨k,hk,rfl,HB,HA⟩:=hrel;have an:=HB.out.size;have d0:wr.cell? ⟨w.heap.size,0,none⟩=some (.string a):=(HB.out.cell (by dsimp only; omega)).trans c0;have d1:wr.cell? ⟨w.heap.size,1,none⟩=some (.slice A l.length c):=(HB.out.cell (by dsimp only; omega)).trans c1;have aD:=jq (av.out.trans (HB.out.mono (by omega)));have dF:w.heap.size<wr.heap.size:=by omega
    by_cases ab:k<l.length
    ·obtain⟨x,ac⟩:∃ x,l[k]?=some x:=⟨_,aQ ab⟩;obtain⟨b,o,c',sn,dv,sv,hA,bg,_,az,bL,bd,aL,f0,f1,f2,f3,f4⟩:=eT (HD.out.keep aV aD.out) ac
     cases hA
     have bW:(0:Int)<=(k:Int):=by omega
     have bV:(k:Int)<(l.length:Int):=by omega
     have aq:b<wr.heap.size:=by omega
     have heq:(sn.toList == a.toList)=(x.set.name == a.data.toList):=by rw[dQ,dQ,az]
     have vX:Hid (Np.kj x.set.type (x.set.name == a.data.toList)=true->∀ j y,j<k+1->l[j]?=some y->Np.kj y.set.type (y.set.name == a.data.toList)=true):=jq (λh j y hj hy=>by
      by_cases e:j=k
      ·subst e; rw[ac] at hy; cases hy; exact h
      ·exact HA.out j y (by omega) hy)
     have Kh:Hid (Np.kj x.set.type (x.set.name == a.data.toList)=false->r=false):=jq (λh=>by
      rw[<-HR.out];exact Np.aP λq=>by have:=q.fits x (gQ ac); rw[h] at this; cases this)
     generalize (x.set.name == a.data.toList)=bb at *;clear ac az bd aL f2 f3 f4
     cases hf:Np.kj x.set.type bb with
     | true=>
      have HF:=jq (vX.out hf);have bT:∀ w,Calls prog 184 #[.int .i64 x.set.type,.bool bb] w λe w'=>e = .returned (.bool true)/\w=w':=λw=>by rw[<-hf]; exact L1 _ _ _
      have HC:=jq bT;rw[<-heq] at bT;have bP:=jq bT;clear hf bT heq;go_wp2_with fail;go_quiet (first | (go_at_call 184; exact Calls.quiet_of_same (Calls.still_same (bP.out _))) | (go_at_call 184; exact Calls.quiet_of_same (Calls.still_same (HC.out _))));go_wp2_with fail;go_roundw
      case rel=>exact⟨k+1,by omega,by go_num,jq (below_drewN HB.out _),jq HF.out⟩
      case measure=>simp[intOf] <;> omega
     | false=>
      have HF:=jq (Kh.out hf);have bT:∀ w,Calls prog 184 #[.int .i64 x.set.type,.bool bb] w λe w'=>e = .returned (.bool false)/\w=w':=λw=>by rw[<-hf]; exact L1 _ _ _
      have HC:=jq bT;rw[<-heq] at bT;have bP:=jq bT;clear hf bT heq;go_wp2_with fail;go_quiet (first | (go_at_call 184; exact Calls.quiet_of_same (Calls.still_same (bP.out _))) | (go_at_call 184; exact Calls.quiet_of_same (Calls.still_same (HC.out _))));go_wp2_with fail;go_ret;exact⟨aj HF.out.symm,below_drewN aD.out _⟩
    ·go_wp2_with fail;go_ret;refine⟨aj ?_,aD.out⟩;rw[<-HR.out];refine (Np.bO ⟨qL.out,dg.out,λx hx=>?_⟩).symm;obtain⟨j,hj,rfl⟩:=nQ.1 hx;exact HA.out j _ (by omega) (aQ hj)
def Np.AD(l:List Np.Signed)(k:Nat)(x:Np.Signed):Prop:=∀ p,0<k->l[k - 1]?=some p->p.set.name=x.set.name->x.set.type≠3/\(Np.nw (l.take (k+1))=x.set.name->x.set.type=8)
def Np.AK(l:List Np.Signed):Prop:=∀ k x,l[k]?=some x->Np.AD l k x
theorem UQ{l:List Np.Signed}{k:Nat}{x:Np.Signed}(hx:l[k]?=some x):Np.nw (l.take (k+1))=if x.set.type=3 then x.set.name else Np.nw (l.take k):=by
 obtain⟨hk,rfl⟩:=cQ.1 hx;rw[fQ hk,Np.Gf]
theorem UD(a:ByteArray)(v:Value)(l:List Np.Signed)(cu:l.length<=20000)(hv:∀ x∈l,x.set.name≠[])(w:World)(hd:SlR bK 5 w w.heap.size v l) :
 Calls prog 114 #[.agg #[.string a,v]] w λe w'=>e = .returned (.bool (Np.yes (Np.AK l)))/\Below w.heap.size w w':=by
 obtain⟨r,hr⟩:∃ r,Np.yes (Np.AK l)=r:=⟨_,rfl⟩;rw[hr];have HR:=jq hr;have HD:=jq hd;have HV:=jq hv;obtain⟨A,c,rfl,bC,bH⟩:=ag hd;clear hr hd hv;have HW:Hid (∀ o,Below w.heap.size w (w.alloc o)):=jq (λo=>(vQ _ w).alloc (bQ _) _);go_enter func114,ntmps114;go_wp2_with fail;obtain⟨w1,al⟩:∃ w1,w.alloc (.cells #[.string a,.slice A l.length c] 56)=w1:=⟨_,rfl⟩;have c1:w1.cell? ⟨w.heap.size,1,none⟩=some (.slice A l.length c):=by rw[<-al]; simp[go_sem]
 have bI:w1.heap.size=w.heap.size+1:=by rw[<-al]; simp
 have aF:Hid (Below w.heap.size w w1):=jq (by rw[<-al]; exact HW.out _);rw[al];clear al;go_loopw [3,4] (λva i wr=>∃ (k:Nat) (sa:ByteArray),k<=l.length/\i = .int .i64 k/\va = .string sa/\Hid (sa.data.toList=Np.nw (l.take k))/\Hid (Below w1.heap.size w1 wr)/\Hid (∀ j x,j<k->l[j]?=some x->Np.AD l j x)) (λ_ i _=>l.length - (intOf i).toNat)
 case atStart=>exact⟨0,⟨#[]⟩,jQ _,rfl,rfl,jq rfl,jq (vQ _ _),jq (λj g hj=>by omega)⟩
 case round=>
  obtain⟨k,sa,hk,rfl,rfl,rq,HB,HA⟩:=hrel;have an:=HB.out.size;have d1:wr.cell? ⟨w.heap.size,1,none⟩=some (.slice A l.length c):=(HB.out.cell (by dsimp only; omega)).trans c1;have aD:=jq (aF.out.trans (HB.out.mono (by omega)));have dF:w.heap.size<wr.heap.size:=by omega
  by_cases ab:k<l.length
  ·obtain⟨x,ac⟩:∃ x,l[k]?=some x:=⟨_,aQ ab⟩;obtain⟨b,o,c',sn,dv,sv,hA,bg,_,az,bL,bd,aL,f0,f1,f2,f3,f4⟩:=eT (HD.out.keep aV aD.out) ac
   cases hA
   have HX:=jq ac;have aS:=jq az;have S9:=jq (UQ ac);have hne:(sn.toList == [])=false:=by rw[dQ,az]; simpa using HV.out x (gQ ac)
   have ir:Hid (Np.AD l k x->∀ j y,j<k+1->l[j]?=some y->Np.AD l j y):=jq (λh j y hj hy=>by
    by_cases e:j=k
    ·subst e; rw[ac] at hy; cases hy; exact h
    ·exact HA.out j y (by omega) hy)
   have HF:Hid (¬ Np.AD l k x->r=false):=jq (λh=>by rw[<-HR.out]; exact Np.aP λq=>h (q k x ac));have bW:(0:Int)<=(k:Int):=by omega
   have bV:(k:Int)<(l.length:Int):=by omega
   have aq:b<wr.heap.size:=by omega
   have K6:∃ q:Bool,Hid (q=true↔∃ p,0<k/\l[k - 1]?=some p/\p.set.name=x.set.name)/\((k=0/\q=false)\/∃ (m:Nat) (sy:ByteArray),k=m+1/\wr.cell? ⟨b,o+m * 5,none⟩=some (.string sy)/\(sy.toList == sn.toList)=q):=by
    by_cases jy:k=0
    ·exact⟨false,jq ⟨λh=>(by cases h),λ⟨p,h,_⟩=>(by omega)⟩,.inl ⟨jy,rfl⟩⟩
    ·obtain⟨m,rfl⟩:∃ m,k=m+1:=⟨k - 1,by omega⟩;obtain⟨y,hy⟩:∃ y,l[m]?=some y:=⟨_,aQ (by omega)⟩;obtain⟨b9,o9,c9,sy,dv9,sv9,hA,_,_,iR,_,_,_,q0,q1,_⟩:=eT (HD.out.keep aV aD.out) hy;simp only[Value.slice.injEq,Option.some.injEq,Addr.mk.injEq,and_true,true_and] at hA;obtain⟨⟨rfl,rfl⟩,-⟩:=hA;refine⟨_,jq ?_,.inr ⟨m,sy,rfl,q0,rfl⟩⟩;rw[dQ,dQ,iR,aS.out,beq_iff_eq];constructor
     ·intro h; exact⟨y,by omega,by simpa using hy,h⟩
     ·rintro⟨p,_,hp,h⟩;rw[show m+1 - 1=m by omega,hy] at hp
      cases hp; exact h
   obtain⟨qb,se,Bz⟩:=K6;obtain⟨ty,dD⟩:∃ ty,x.set.type=ty:=⟨_,rfl⟩;have go:=jq dD;rw[dD] at f1;clear ac az bd aL dD f2 f3 f4;have jA:∃ m:Nat,(decide ((0:Int)<(k:Int))=false/\decide (0<k)=false/\qb=false)\/(decide ((0:Int)<(k:Int))=true/\decide (0<k)=true/\IntKind.i64.wrap ((k:Int) - 1)=(m:Int)/\(k:Int) - 1=(m:Int)/\(0:Int)<=(m:Int)/\(m:Int)<(l.length:Int)/\∃ sy:ByteArray,wr.cell? ⟨b,o+m * 5,none⟩=some (.string sy)/\(sy.toList == sn.toList)=qb):=by
    rcases Bz with ⟨jy,h⟩ | ⟨m,sy,nl,g0,sB⟩
    ·exact⟨0,.inl ⟨by simp; omega,by simp; omega,h⟩⟩
    ·exact⟨m,.inr ⟨by simp; omega,by simp; omega,by rw[IntWalk.i64_in _ (by omega)]; omega,by omega,by omega,by omega,sy,g0,sB⟩⟩
   clear Bz;obtain⟨m,jA⟩:=jA;by_cases h3:ty=3
   ·subst h3;have ub:Hid (sn.data.toList=Np.nw (l.take (k+1))):=jq (by rw[S9.out,Qb go.out,aS.out]);rcases jA with ⟨kV,lH,rfl⟩ | ⟨kV,lH,Ll,Fe,nj,sK,sy,g0,sB⟩
    ·have bZ:=jq (ir.out (λp h0 hp he=>by have:=se.out.2 ⟨p,h0,hp,he⟩; cases this));go_wp2_with fail;go_quiet (fail);go_wp2_with fail;go_roundw
     case rel=>exact⟨k+1,sn,by omega,by go_num,rfl,ub,jq (below_drewN HB.out _),jq bZ.out⟩
     case measure=>simp[intOf] <;> omega
    ·cases qb with
     | false=>
      have bZ:=jq (ir.out (λp h0 hp he=>by have:=se.out.2 ⟨p,h0,hp,he⟩; cases this));go_wp2_with fail;go_quiet (fail);go_wp2_with fail;go_roundw
      case rel=>exact⟨k+1,sn,by omega,by go_num,rfl,ub,jq (below_drewN HB.out _),jq bZ.out⟩
      case measure=>simp[intOf] <;> omega
     | true=>
      have yM:Hid (r=false):=jq (HF.out λh=>by
       obtain⟨p,h0,hp,he⟩:=se.out.1 (by simp);exact (h p h0 hp he).1 go.out)
      go_wp2_with fail;go_quiet (fail);obtain⟨w2,ai⟩:∃ w2,wr.drewN nq=w2:=⟨_,rfl⟩;rw[ai];have aa:Below wr.heap.size wr w2:=by rw[<-ai]; exact below_drewN (vQ _ _) _
      have t1:w2.cell? ⟨w.heap.size,1,none⟩=some (.slice (some ⟨b,o,none⟩) l.length c):=(aa.cell (by dsimp only; omega)).trans d1;have t2:w2.cell? ⟨b,o+k * 5,none⟩=some (.string sn):=(aa.cell (by dsimp only; omega)).trans f0;have f9:=jq (aD.out.trans (aa.mono (by omega)));clear aa ai;go_wp2_with fail;go_ret;exact⟨aj yM.out.symm,f9.out⟩
   ·have h3':(ty == 3)=false:=by simpa using h3
    have h3'':(ty != 3)=true:=by simpa using h3
    have ub:Hid (sa.data.toList=Np.nw (l.take (k+1))):=jq (by rw[S9.out,Qc (by rw[go.out]; exact h3)]; exact rq.out);rcases jA with ⟨kV,lH,rfl⟩ | ⟨kV,lH,Ll,Fe,nj,sK,sy,g0,sB⟩
    ·have bZ:=jq (ir.out (λp h0 hp he=>by have:=se.out.2 ⟨p,h0,hp,he⟩; cases this));go_wp2_with fail;go_quiet (fail);go_wp2_with fail;go_roundw
     case rel=>exact⟨k+1,sa,by omega,by go_num,rfl,ub,jq (below_drewN HB.out _),jq bZ.out⟩
     case measure=>simp[intOf] <;> omega
    ·cases qb with
     | false=>
      have bZ:=jq (ir.out (λp h0 hp he=>by have:=se.out.2 ⟨p,h0,hp,he⟩; cases this));go_wp2_with fail;go_quiet (fail);go_wp2_with fail;go_roundw
      case rel=>exact⟨k+1,sa,by omega,by go_num,rfl,ub,jq (below_drewN HB.out _),jq bZ.out⟩
      case measure=>simp[intOf] <;> omega
     | true=>
      obtain⟨qe,EU⟩:∃ qe,(sn.toList == sa.toList)=qe:=⟨_,rfl⟩;have Sg:Hid (qe=true↔Np.nw (l.take (k+1))=x.set.name):=jq (by rw[<-EU,dQ,dQ,aS.out,ub.out,beq_iff_eq]; exact eq_comm);obtain⟨q8,vO⟩:∃ q8,(ty != 8)=q8:=⟨_,rfl⟩;have EA:Hid (q8=true↔x.set.type≠8):=jq (by rw[<-vO,go.out]; simp);have CW:Hid (x.set.type≠3):=jq (by rw[go.out]; exact h3);clear h3;go_wp2_with fail;go_quiet (fail);obtain⟨w2,ai⟩:∃ w2,wr.drewN nq=w2:=⟨_,rfl⟩;rw[ai];have aa:Below wr.heap.size wr w2:=by rw[<-ai]; exact below_drewN (vQ _ _) _
      have t1:w2.cell? ⟨w.heap.size,1,none⟩=some (.slice (some ⟨b,o,none⟩) l.length c):=(aa.cell (by dsimp only; omega)).trans d1;have t2:w2.cell? ⟨b,o+k * 5,none⟩=some (.string sn):=(aa.cell (by dsimp only; omega)).trans f0;have f9:=jq (aD.out.trans (aa.mono (by omega)));have PN:=jq (HB.out.trans (aa.mono HB.out.size));clear aa ai
      cases qe with
      | false=>
       have bZ:=jq (ir.out (λp h0 hp he=>⟨CW.out,λhl=>by have:=Sg.out.2 hl; cases this⟩));go_wp2_with fail;go_roundw
       case rel=>exact⟨k+1,sa,by omega,by go_num,rfl,ub,jq PN.out,jq bZ.out⟩
       case measure=>simp[intOf] <;> omega
      | true=>
       cases q8 with
       | false=>
        have bZ:=jq (ir.out (λp h0 hp he=>⟨CW.out,λ_=>Decidable.not_not.1 λh8=>by have:=EA.out.2 h8; cases this⟩));go_wp2_with fail;go_roundw
        case rel=>exact⟨k+1,sa,by omega,by go_num,rfl,ub,jq PN.out,jq bZ.out⟩
        case measure=>simp[intOf] <;> omega
       | true=>
        have yM:Hid (r=false):=jq (HF.out λh=>by
         obtain⟨p,h0,hp,he⟩:=se.out.1 (by simp);exact EA.out.1 (by simp) ((h p h0 hp he).2 (Sg.out.1 (by simp))))
        go_wp2_with fail;go_ret;exact⟨aj yM.out.symm,f9.out⟩
  ·go_wp2_with fail;go_ret;refine⟨aj ?_,aD.out⟩;rw[<-HR.out];exact (Np.bO λi x hx=>HA.out i x (by have:=(cQ.1 hx).1; omega) hx).symm
end
end Go.Proofs.YtbfbobfbgabjiaaGreatDoor
