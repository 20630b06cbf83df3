/- Parts of the proof. No condition. -/
import Derived.Test.YtfnopgdcaanaiaaGreatDoorM06
import Derived.Test.YtfnopgdcaanaiaaGreatDoorM09
set_option linter.all false
set_option maxRecDepth 100000
set_option maxHeartbeats 8000000
namespace Go.Proofs.YtfnopgdcaanaiaaGreatDoor
open Go.Proofs.Tryz
section
open Go.RowKit
structure Np.ApexH(a:List UInt8)(l:List Np.Signed):Prop where
 start:Np.kp l a 4
 server:Np.kp l a 2
 fits:∀ x∈l,Np.km x.set.type (x.set.name == a)=true
theorem VJ(a:ByteArray)(ha:a.size<=140737488355328)(na:Np.aD a.data.toList=true)(v:Value)(l:List Np.Signed)(bW:l.length<=20000)(hv:∀ x∈l,Np.aD x.set.name=true)(hs:Np.wb l)(w:World)(hd:SlR bO 5 w w.heap.size v l) :
 Calls prog 199 #[.agg #[.string a,v]] w (a0X w.heap.size w (.bool (Np.yes (Np.ApexH a.data.toList l)))):=by
 obtain⟨r,hr⟩:=acJ (Np.yes (Np.ApexH a.data.toList l));rw[hr];have HR:=jq hr;have HV:=jq hv;have HS:=jq hs;have HD:=jq hd;have NA:=jq na;obtain⟨A,c,rfl,bq,bM⟩:=ak hd;clear hr hv hs hd na;have HW:Hid (∀ o o',Below w.heap.size w ((w.alloc o).alloc o')):=jq (λo o'=>((vQ _ w).alloc (bQ _) _).alloc (by simp) _);go_enter func199,ntmps199;go_wp2_with fail;obtain⟨w1,ah⟩:=acJ ((w.alloc (.cells #[.string a,.slice A l.length c] 263)).alloc (.cells #[.int .i64 4,.int .i64 2] 3));have c0:w1.cell? ⟨w.heap.size,0,none⟩=some (.string a):=by rw[<-ah];simp[go_sem]
 have c1:w1.cell? ⟨w.heap.size,1,none⟩=some (.slice A l.length c):=by rw[<-ah];simp[go_sem]
 have c2:w1.cell? ⟨w.heap.size+1,0,none⟩=some (.int .i64 4):=by rw[<-ah];simp[go_sem]
 have c3:w1.cell? ⟨w.heap.size+1,1,none⟩=some (.int .i64 2):=by rw[<-ah];simp[go_sem]
 have eO:w1.heap.size=w.heap.size+2:=by rw[<-ah];simp
 have av:Hid (Below w.heap.size w w1):=jq (by rw[<-ah];exact HW.out _ _);rw[ah];clear ah;go_loopw [11] (λi wr=>Hid (Below w1.heap.size w1 wr)/\(i = .int .i64 0\/(i = .int .i64 1/\Hid (Np.kp l a.data.toList 4))\/(i = .int .i64 2/\Hid (Np.kp l a.data.toList 4)/\Hid (Np.kp l a.data.toList 2)))) (λi _=>2 - (intOf i).toNat)
 case atStart=>exact⟨jq (vQ _ _),.inl rfl⟩
 case round=>
  obtain⟨HB,hi⟩:=hrel;have an:=HB.out.size;obtain⟨bc,bf⟩:=tV HB.out;have d0:wr.cell? ⟨w.heap.size,0,none⟩=some (.string a):=by rw[bc _ _ (by omega)];exact c0
  have d1:wr.cell? ⟨w.heap.size,1,none⟩=some (.slice A l.length c):=by rw[bc _ _ (by omega)];exact c1
  have d2:wr.cell? ⟨w.heap.size+1,0,none⟩=some (.int .i64 4):=by rw[bc _ _ (by omega)];exact c2
  have d3:wr.cell? ⟨w.heap.size+1,1,none⟩=some (.int .i64 2):=by rw[bc _ _ (by omega)];exact c3
  clear bc bf;have aG:=acZ av HB.out;have GK:=jq ((HD.out.keep bj aG.out).more cC (show w.heap.size<=wr.heap.size by omega));have dK:w.heap.size+1<wr.heap.size:=by omega
  have Yr:w.heap.size<wr.heap.size:=by omega
  rcases hi with rfl | ⟨rfl,H4⟩ | ⟨rfl,H4,H2⟩
  ·go_wp2_with fail;refine (OJ a _ l bW HV.out HS.out a ha 4 NA.out _ GK.out).mono ?_;rintro e w2 ⟨rfl,hb⟩;have ai:=jq hb;have aN:=hb.size;clear hb
   cases hk:Np.yes (Np.kp l a.data.toList 4) with
   | true=>
    have HK:=jq hk;clear hk;go_wp2_with fail;go_roundw
    case rel=>exact⟨jq (HB.out.trans (ai.out.mono HB.out.size)),.inr (.inl ⟨by go_num,jq (Np.fq.1 HK.out)⟩)⟩
    case measure=>simp[intOf] <;> omega
   | false=>
    have HK:=jq hk;clear hk;go_wp2_with fail;go_ret;refine⟨ag ?_,aG.out.trans (ai.out.adZ)⟩;rw[<-HR.out];refine (Np.aF λh=>?_).symm
    have:=Np.bh h.start
    rw[HK.out] at this
    cases this
  ·go_wp2_with fail;refine (OJ a _ l bW HV.out HS.out a ha 2 NA.out _ GK.out).mono ?_;rintro e w2 ⟨rfl,hb⟩;have ai:=jq hb;have aN:=hb.size;clear hb
   cases hk:Np.yes (Np.kp l a.data.toList 2) with
   | true=>
    have HK:=jq hk;clear hk;go_wp2_with fail;go_roundw
    case rel=>exact⟨jq (HB.out.trans (ai.out.mono HB.out.size)),.inr (.inr ⟨by go_num,H4,jq (Np.fq.1 HK.out)⟩)⟩
    case measure=>simp[intOf] <;> omega
   | false=>
    have HK:=jq hk;clear hk;go_wp2_with fail;go_ret;refine⟨ag ?_,aG.out.trans (ai.out.adZ)⟩;rw[<-HR.out];refine (Np.aF λh=>?_).symm
    have:=Np.bh h.server
    rw[HK.out] at this
    cases this
  ·go_wp2_with fail;clear d2 d3 c0 c1 c2 c3;obtain⟨w5,rfl⟩:=acY wr;go_loopw [32] (λi wx=>∃ k:Nat,k<=l.length/\i = .int .i64 k/\Hid (Below w5.heap.size w5 wx)/\Hid (∀ j x,j<k->l[j]?=some x->Np.km x.set.type (x.set.name == a.data.toList)=true)) (λi _=>l.length - (intOf i).toNat)
   case atStart=>exact⟨0,jQ _,rfl,jq (vQ _ _),jq (λj g hj=>by omega)⟩
   case round=>
    obtain⟨k,hk,rfl,HX,HA⟩:=hrel;by_cases ab:k<l.length
    ·have aa:=aQ ab;obtain⟨b,o,c',sn,dv,sv,hA,bA,_,aw,cB,aK,aS,e0,e1,e2,e3,e4⟩:=fE (GK.out.keep bj HX.out) aa
     cases hA
     generalize hx:l[k]=x at *;clear hx;obtain⟨Ad,cd,rfl,_,_⟩:=ak aK;obtain⟨As,cs,rfl,_,_⟩:=ak aS;have nZ:=HX.out.size;have g0:wr.cell? ⟨w.heap.size,0,none⟩=some (.string a):=by rw[HX.out.cell (by simpa using Yr)];exact d0
     have fw:w.heap.size<wr.heap.size:=by omega
     have heq:(sn.toList == a.toList)=(x.set.name == a.data.toList):=by rw[dQ,dQ,aw]
     have vE:Hid (Np.km x.set.type (x.set.name == a.data.toList)=true->∀ j y,j<k+1->l[j]?=some y->Np.km y.set.type (y.set.name == a.data.toList)=true):=jq (λh j y hj hy=>by
      by_cases e:j=k
      ·subst e;rw[aa] at hy;cases hy;exact h
      ·exact HA.out j y (by omega) hy)
     have GT:Hid (Np.km x.set.type (x.set.name == a.data.toList)=false->r=false):=jq (λh=>by
      rw[<-HR.out];exact Np.aF λq=>by have:=q.fits x (gQ aa);rw[h] at this;cases this)
     have aY:Hid (∀ o,Below w5.heap.size w5 (wr.alloc o)):=jq (λo=>HX.out.alloc HX.out.size _);generalize (x.set.name == a.data.toList)=bb at *;clear aa aw aK aS
     cases hf:Np.km x.set.type bb with
     | true=>
      have HF:=jq hf;go_wp2_with (go_at_call 271;refine (OK _ _ _).mono ?_;rintro e w' ⟨rfl,rfl⟩);go_roundw
      case rel=>exact⟨k+1,by omega,by go_num,jq (aY.out _),jq (vE.out HF.out)⟩
      case measure=>simp[intOf] <;> omega
     | false=>
      have HF:=jq hf;go_wp2_with (go_at_call 271;refine (OK _ _ _).mono ?_;rintro e w' ⟨rfl,rfl⟩);go_ret;exact⟨ag (GT.out HF.out).symm,aG.out.trans ((aY.out _).adZ)⟩
    ·go_wp2_with fail;go_ret;refine⟨ag ?_,aG.out.trans (HX.out.adZ)⟩;rw[<-HR.out];refine (Np.bh ⟨H4.out,H2.out,λx hx=>?_⟩).symm;obtain⟨j,hj,rfl⟩:=nQ.1 hx;exact HA.out j _ (by omega) (aQ hj)
end
namespace Np
def dg(a:List UInt8)(l:List Signed):List (List UInt8):=(l.filter λx=>decide (x.set.type=2)&&!(x.set.name == a)).map (·.set.name)
theorem WR(a:List UInt8)(l:List Signed)(x:Signed):dg a (l ++ [x])=if x.set.type=2/\x.set.name≠a then dg a l ++ [x.set.name] else dg a l:=by
 unfold dg;rw[List.filter_append];by_cases h1:x.set.type=2 <;> by_cases h2:x.set.name=a <;> simp[h1,h2]
theorem CW{a:List UInt8}{l:List Signed}{c:List UInt8} : c∈dg a l↔dh ⟨a,l⟩ c=true:=by
 unfold dg;rw[IS,List.mem_map];constructor
 ·rintro⟨x,hx,rfl⟩;obtain⟨h1,h2⟩:=List.mem_filter.1 hx;simp only[Bool.and_eq_true,Qa,Bool.not_eq_true',beq_eq_false_iff_ne] at h2;exact⟨x,h1,h2.1,h2.2,rfl⟩
 ·rintro⟨x,hx,h1,h2,rfl⟩;exact⟨x,List.mem_filter.2 ⟨hx,by simpa [h1] using h2⟩,rfl⟩
theorem Om{z:Zone}(h:InOrder z):(dg z.apex z.sets).Pairwise λa b=>aL a b<0:=by
 unfold dg;rw[List.pairwise_map];have h1:(z.sets.filter λx=>decide (x.set.type=2)&&!(x.set.name == z.apex)).Pairwise λa b=>ir a.set b.set<0:=by
  have:=h.order
  rw[List.pairwise_map] at this;exact this.sublist List.filter_sublist
 refine h1.imp_of_mem λ{a b} ha hb ab=>?_;obtain⟨_,ha⟩:=List.mem_filter.1 ha;obtain⟨_,hb⟩:=List.mem_filter.1 hb;simp only[Bool.and_eq_true,Qa] at ha hb;rcases Int.lt_or_eq_of_le (N9 ab) with h2 | h2
 ·exact h2
 ·have:=Oa ab (fW.zero _ _ h2)
  omega
def o8(out:List (List UInt8))(c:List UInt8):List (List UInt8):=
 match out.getLast? with
 | none=>[c]
 | some h=>if bD c h=true then out else out ++ [c]
def eT(l:List (List UInt8)):List (List UInt8):=l.foldl o8 []
theorem PG(l:List (List UInt8))(c:List UInt8):eT (l ++ [c])=o8 (eT l) c:=by simp[eT]
structure Bg(l out:List (List UInt8)):Prop where
 sub:out.Sublist l
 above:∀ c∈l,∃ h∈out,bD c h=true
 top:∀ h∈out,∀ c∈l,bD h c=true->c=h
theorem Y0{l out:List (List UInt8)}{c:List UInt8}(hne:∀ x∈l ++ [c],x≠[])(hs:(l ++ [c]).Pairwise λa b=>aL a b<0)(h:Bg l out):Bg (l ++ [c]) (o8 out c):=by
 obtain⟨h1,_,h3⟩:=List.pairwise_append.1 hs;have ab:∀ x∈l,aL x c<0:=λx hx=>h3 x hx c (by simp);have hout:∀ x∈out,x∈l:=λx hx=>h.sub.subset hx;have ma:c≠[]:=hne c (by simp);have QH:∀ x∈l,bD x c=true->False:=λx hx hu=>by
  have a1:=F0 ma hu;have a2:=fW.anti _ _ (ab x hx);omega
 unfold o8
 cases hg:out.getLast? with
 | none=>
  have ho:out = []:=by simpa using hg
  have hl:l = []:=by
   cases l with
   | nil=>rfl
   | cons y l=>obtain⟨q,hq,_⟩:=h.above y (by simp);rw[ho] at hq;cases hq
  subst ho hl;refine⟨by simp,λx hx=>⟨c,by simp,?_⟩,λx hx y hy _=>?_⟩
  ·simp at hx;subst hx;exact F3 _
  ·simp at hx hy;rw[hx,hy]
 | some q=>
  have hq:q∈out:=List.mem_of_getLast? hg;dsimp only;split
  ·rename_i hu;refine⟨h.sub.trans (List.sublist_append_left _ _),λx hx=>?_,λx hx y hy dM=>?_⟩
   ·rcases List.mem_append.1 hx with hx | hx
    ·exact h.above x hx
    ·simp at hx;subst hx;exact⟨q,hq,hu⟩
   ·rcases List.mem_append.1 hy with hy | hy
    ·exact h.top x hx y hy dM
    ·simp at hy;subst hy;exact (QH x (hout x hx) dM).elim
  ·rename_i hu;refine⟨List.Sublist.append h.sub (List.Sublist.refl _),λx hx=>?_,λx hx y hy dM=>?_⟩
   ·rcases List.mem_append.1 hx with hx | hx
    ·obtain⟨t,ht,lO⟩:=h.above x hx;exact⟨t,List.mem_append_left _ ht,lO⟩
    ·simp at hx;subst hx;exact⟨x,by simp,F3 _⟩
   ·rcases List.mem_append.1 hx with eC | eC
    ·rcases List.mem_append.1 hy with tf | tf
     ·exact h.top x eC y tf dM
     ·rw[List.mem_singleton] at tf;rw[tf] at dM;exact (QH x (hout x eC) dM).elim
    ·simp at eC;subst eC;rcases List.mem_append.1 hy with hy | hy
     ·exfalso;obtain⟨t,ht,lO⟩:=h.above y hy;have QE:t≠[]:=hne t (List.mem_append_left _ (hout t ht));have hyn:y≠[]:=hne y (List.mem_append_left _ hy);have QO:=Lz hyn QE dM lO;by_cases Ko:t=q
      ·subst Ko;exact hu QO
      ·obtain⟨o',ho'⟩:=List.getLast?_eq_some_iff.1 hg;have Qy:out.Pairwise λa b=>aL a b<0:=h1.sublist h.sub;rw[ho'] at Qy ht;have pi:t∈o':=by
        rcases List.mem_append.1 ht with ht | ht
        ·exact ht
        ·simp at ht;exact absurd ht Ko
       have jV:=(List.pairwise_append.1 Qy).2.2 t pi q (by simp);have ZG:=ab q (hout q hq);have ZF:=Ly QE QO (Int.le_of_lt jV) (Int.le_of_lt ZG);exact Ko (h.top q hq t (hout t (by rw[ho'];exact List.mem_append_left _ pi)) ZF)
     ·simp at hy;exact hy
theorem PI:∀ (r p:List (List UInt8)),(∀ x∈p++r,x≠[])->(p++r).Pairwise (λa b=>aL a b<0)->Bg p (eT p)->Bg (p++r) (eT (p++r))
 | [],p,_,_,h=>by rw[List.append_nil];exact h
 | c::r,p,hne,hs,h=>by
   have e:p++c::r=(p ++ [c])++r:=by simp
   rw[e] at hne hs |-;refine PI r (p ++ [c]) hne hs ?_;rw[PG];exact Y0 (λx hx=>hne x (List.mem_append_left _ hx)) (List.pairwise_append.1 hs).1 h
theorem YZ(l:List (List UInt8))(hne:∀ x∈l,x≠[])(hs:l.Pairwise λa b=>aL a b<0):Bg l (eT l):=
 PI l [] hne hs ⟨List.Sublist.refl _,λc hc=>(by cases hc),λh hh=>(by cases hh)⟩
theorem PH{z:Zone}(h:InOrder z):Ns (dh z) (eT (dg z.apex z.sets))/\∀ c,dh z c=true->(∀ d,dh z d=true->bD c d=true->d=c)->c∈eT (dg z.apex z.sets):=by
 have hne:∀ x∈dg z.apex z.sets,x≠[]:=λx hx=>Bw h x (CW.1 hx);have ho:=YZ _ hne (Om h);refine⟨⟨λc hc=>⟨CW.1 (ho.sub.subset hc),λd hd hu=>ho.top c hc d (CW.2 hd) hu⟩,(Om h).sublist ho.sub⟩,λc hc ht=>?_⟩;obtain⟨t,h1,h2⟩:=ho.above c (CW.2 hc);rw[<-ht t (CW.1 (ho.sub.subset h1)) h2];exact h1
def jZ(H:List (List UInt8))(k:Nat)(n:List UInt8):List UInt8:=if 0<k/\bD n (H[k - 1]?.getD [])=true then H[k - 1]?.getD [] else []
theorem aAY{z:Zone}(h:InOrder z){n:List UInt8}{k:Nat}(hk:k<=(eT (dg z.apex z.sets)).length)(h1:∀ j x,j<k->(eT (dg z.apex z.sets))[j]?=some x->aL x n<=0)(h2:∀ j x,k<=j->(eT (dg z.apex z.sets))[j]?=some x->0<aL x n):jG (dh z) n (jZ (eT (dg z.apex z.sets)) k n):=by
 obtain⟨p1,p2⟩:=PH h
 have:=Y1 (Bw h) p1 (n:=n) (λc hc ht _=>p2 c hc ht) hk (λj hj uo=>h1 j _ uo (aQ hj)) (λj hj uo=>h2 j _ uo (aQ hj))
 unfold jZ;split
 ·rename_i hc;rw[dif_pos hc] at this;exact this
 ·rename_i hc;rw[dif_neg hc] at this;exact this
end Np
section
open Go.RowKit
def cF(base:Nat)(w:World)(v:Value)(ps:List (List UInt8)):Prop:=w.ownsRow base 9 1 v ps.length (ps.map aA)
theorem cF.form{base:Nat}{w:World}{v:Value}{ps:List (List UInt8)}(h:cF base w v ps):∃ A c,v = .slice A ps.length c:=zH h
theorem cF.alloc{base:Nat}{w:World}{v:Value}{ps:List (List UInt8)}(h:cF base w v ps)(o:Obj):cF base (w.alloc o) v ps:=World.ownsRow.alloc h o
theorem cF.keep{base:Nat}{w w':World}{v:Value}{ps:List (List UInt8)}(h:cF base w v ps)(hb:Below w.heap.size w w'):cF base w' v ps:=gN h (λg hg=>hb.block g (h.lt g hg).2)
theorem cF.slr{base:Nat}{w:World}{v:Value}{ps:List (List UInt8)}(h:cF base w v ps)(hl:ps.length<=140737488355328)(an:∀ x∈ps,x.length<=140737488355328):SlR RTx 1 w w.heap.size v ps:=by
 refine Li (sz:=1) (e:=9) (base:=base) (λx=>[aA x]) (λ_ _=>rfl) ?_ hl (λx hx=>⟨⟨x.toArray⟩,by simp,an x hx,rfl⟩)
 have:w.ownsRow base 9 1 v ps.length (ps.map aA):=h
 simpa [Rh] using this
section
variable {ops:Array Oper} {rest:List Oper} {o:Oper} {a:Act} {Q:Exit->Act->World->Prop}
theorem zS(w:World)(js:o.guard=none)(s x:Operand)(ho:o.op = .call { callee:=.builtin .append,args:=#[s,x],argTypes:=#[116,116] })
 (base:Nat) (v:Value) (ps:List (List UInt8)) (hs:a.eval s=v) (hown:cF base w v ps) (blk:Nat) (y:List UInt8) (hx:a.eval x = .slice (some ⟨blk,0,none⟩) 1 1) (hc:w.cell? ⟨blk,0,none⟩=some (aA y)) (hlen:ps.length<=100000) (fh:base<=w.heap.size)
 (h:∀ v' w',cF base w' v' (ps ++ [y])->Below base w w'->wpList prog ops Q rest (a.put o.dst v') w'):wpList prog ops Q (o::rest) a w:=by
 obtain⟨i0,hi,fk,bd,aN⟩:=info_parts Tryz.infoStr;refine wpList_append_own_at w js s x 116 ho base 9 i0 (.string ⟨#[]⟩) 1 16 underlying116 hi fk bd aN rfl (by decide) v ps.length (ps.map aA) hs hown ⟨blk,0,none⟩ 1 1 [aA y] hx rfl ?_ (by simp[Value.oneCell']) (by unfold maxLen;omega) (by omega) fh ?_
 ·intro j u hj
  cases j with
  | zero=>simp at hj;subst hj;simpa [Addr.add] using hc
  | succ j=>simp at hj
 ·intro v' w' ho' hg _ _;refine h v' w' ?_ ((vQ _ _).grown hg fh (λk hk=>(hown.lt k hk).1));have e:(ps ++ [y]).length=ps.length+1:=by simp
  unfold cF;rw[e,List.map_append];exact ho'
end
theorem aBQ(a:ByteArray)(v:Value)(l:List Np.Signed)(bW:l.length<=20000)(w:World)(hd:SlR bO 5 w w.heap.size v l) :
 Calls prog 349 #[.agg #[.string a,v]] w (yg RTx 1 w (Np.dg a.data.toList l)):=by
 have HD:=jq hd;obtain⟨A,c,rfl,bq,bM⟩:=ak hd;clear hd;have nh:Hid (∀ k,(Np.dg a.data.toList (l.take k)).length<=20000):=jq (λk=>by
  unfold Np.dg;rw[List.length_map];exact yQ (List.length_filter_le _ _) (by rw[List.length_take];omega))
 have HW:Hid (∀ o,Below w.heap.size w (w.alloc o)):=jq (λo=>(vQ _ w).alloc (bQ _) _);have kj:Hid (∀ x∈Np.dg a.data.toList l,x.length<=140737488355328):=jq (λx hx=>by
  unfold Np.dg at hx;obtain⟨y,hy,rfl⟩:=List.mem_map.1 hx;obtain⟨j,hj,rfl⟩:=nQ.1 (List.mem_filter.1 hy).1;obtain⟨_,_,_,s,_,_,_,_,_,hs,hz,_⟩:=fE HD.out (aQ hj);rw[<-hs,bn];exact hz)
 go_enter func349,ntmps349;go_wp2_with fail;obtain⟨w1,ah⟩:=acJ (w.alloc (.cells #[.string a,.slice A l.length c] 44));have c0:w1.cell? ⟨w.heap.size,0,none⟩=some (.string a):=by rw[<-ah];simp[go_sem]
 have c1:w1.cell? ⟨w.heap.size,1,none⟩=some (.slice A l.length c):=by rw[<-ah];simp[go_sem]
 have bd:w1.heap.size=w.heap.size+1:=by rw[<-ah];simp
 have av:Hid (Below w.heap.size w w1):=jq (by rw[<-ah];exact HW.out _);rw[ah];clear ah;go_loopw [3,4] (λvo i wr=>∃ (k:Nat),k<=l.length/\i = .int .i64 k/\Hid (Below w1.heap.size w1 wr)/\Hid (cF w1.heap.size wr vo (Np.dg a.data.toList (l.take k)))) (λ_ i _=>l.length - (intOf i).toNat)
 case atStart=>exact⟨0,jQ _,rfl,jq (vQ _ _),jq ⟨by simp,.inl ⟨rfl,rfl⟩⟩⟩
 case round=>
  obtain⟨k,hk,rfl,HB,HO⟩:=hrel;have an:=HB.out.size;have d0:wr.cell? ⟨w.heap.size,0,none⟩=some (.string a):=aaJ HB.out c0;have d1:wr.cell? ⟨w.heap.size,1,none⟩=some (.slice A l.length c):=aaJ HB.out c1;have aG:=acZ av HB.out;have dK:w.heap.size<wr.heap.size:=by omega
  by_cases ab:k<l.length
  ·obtain⟨x,aa⟩:∃ x,l[k]?=some x:=⟨_,aQ ab⟩;obtain⟨b,o,c',sn,dv,sv,hA,bA,_,aw,cB,aK,aS,f0,f1,f2,f3,f4⟩:=fE (HD.out.keep bj aG.out) aa
   cases hA
   obtain⟨Ad,cd,rfl,_,_⟩:=ak aK;have HT:Hid (Np.dg a.data.toList (l.take (k+1))=if x.set.type=2/\x.set.name≠a.data.toList then Np.dg a.data.toList (l.take k) ++ [x.set.name] else Np.dg a.data.toList (l.take k)):=jq (by
    obtain⟨hl,he⟩:=cQ.1 aa;rw[fQ hl,Np.WR,he])
   have aT:=jq aw;have bJ:(0:Int)<=(k:Int):=by omega
   have bI:(k:Int)<(l.length:Int):=by omega
   have ay:b<wr.heap.size:=by omega
   have aY:Hid (∀ o,Below w1.heap.size w1 (wr.alloc o)):=jq (λo=>HB.out.alloc HB.out.size _);have jm:=jq (nh.out k);clear aa aw aK aS f4;by_cases h2:x.set.type=2
   ·have ac:(x.set.type == 2)=true:=by simpa using h2
    by_cases hn:x.set.name=a.data.toList
    ·have jK:(!sn.toList == a.toList)=false:=by rw[dQ,dQ,aT.out,hn];simp
     have lv:=jq (HT.out.trans (Qc λh=>h.2 hn));clear h2 hn;go_wp2_with fail;go_roundw
     case rel=>exact⟨k+1,by omega,by go_num,jq (aY.out _),jq (by rw[lv.out];exact HO.out.alloc _)⟩
     case measure=>simp[intOf] <;> omega
    ·have jK:(!sn.toList == a.toList)=true:=by rw[dQ,dQ,aT.out];simpa using hn
     have lv:=jq (HT.out.trans (Qb ⟨h2,hn⟩));clear h2 hn;go_wp2_with (at_builtin;refine zS _ rfl _ _ rfl w1.heap.size _ (Np.dg a.data.toList (l.take k)) rfl ((HO.out.alloc _).alloc _) (wr.heap.size+1) sn.data.toList (by simp[go_sem]) (by simp[go_sem]) (by have:=jm.out;omega) (by simp;omega) ?_;intro v5 w5 dV aH;have H5:=jq (And.intro dV aH);clear dV aH);go_roundw
     case rel=>exact⟨k+1,by omega,by go_num,jq (((aY.out _).alloc (by simp;omega) _).trans H5.out.2),jq (by rw[lv.out,<-aT.out];exact H5.out.1)⟩
     case measure=>simp[intOf] <;> omega
   ·have ac:(x.set.type == 2)=false:=by simpa using h2
    have lv:=jq (HT.out.trans (Qc λh=>h2 h.1));clear h2;go_wp2_with fail;go_roundw
    case rel=>exact⟨k+1,by omega,by go_num,jq (aY.out _),jq (by rw[lv.out];exact HO.out.alloc _)⟩
    case measure=>simp[intOf] <;> omega
  ·have HE:Hid (l.take k=l):=jq (kQ (by omega));go_wp2_with fail;go_ret;refine⟨_,rfl,?_,aG.out⟩;have h1:=HO.out;have h2:=nh.out k;rw[HE.out] at h1 h2;exact h1.slr (by omega) kj.out
end
namespace Np
def gM(c:Copy):Int×List UInt8:=(c.host,c.zone.apex)
def gq(l:List Copy)(p:Int×List UInt8):List Span:=(l.filter λc=>decide (gM c=p)).map j8
theorem Eh(l:List Copy)(c:Copy)(p:Int×List UInt8):gq (l ++ [c]) p=if gM c=p then gq l p ++ [j8 c] else gq l p:=by
 unfold gq;rw[List.filter_append];by_cases h:gM c=p
 ·simp[h]
 ·simp[h]
theorem OU{l:List Copy}{p:Int×List UInt8}(h:∀ c∈l,gM c≠p):gq l p = []:=by
 unfold gq;rw[List.filter_eq_nil_iff.2 (λc hc=>by simpa using h c hc)];rfl
structure GrpI(kvs:List ((Int×List UInt8)×List Span))(l:List Copy):Prop where
 nodup:(kvs.map (·.1)).Nodup
 each:∀ x∈kvs,x.2=gq l x.1
 all:∀ c∈l,gM c∈kvs.map (·.1)
theorem GrpI.nil:GrpI [] []:=⟨by simp,λx hx=>(by cases hx),λc hc=>(by cases hc)⟩
theorem GrpI.old{kvs:List ((Int×List UInt8)×List Span)}{l:List Copy}(h:GrpI kvs l){c:Copy}{j:Nat}{g:List Span}(hj:kvs[j]?=some (gM c,g)):GrpI (kvs.set j (gM c,g ++ [j8 c])) (l ++ [c]):=by
 obtain⟨hl,he⟩:=cQ.1 hj;have hk:(kvs.set j (gM c,g ++ [j8 c])).map (·.1)=kvs.map (·.1):=by
  rw[List.map_set];apply List.ext_getElem?;intro i;rw[List.getElem?_set];split
  ·rename_i e;subst e;rw[List.length_map,Qb hl,List.getElem?_map,hj];rfl
  ·rfl
 have hg:=h.each _ (gQ hj);refine⟨by rw[hk];exact h.nodup,λx hx=>?_,λd hd=>?_⟩
 ·obtain⟨i,hi,rfl⟩:=nQ.1 hx;rw[List.length_set] at hi;rw[List.getElem_set];split
  ·rename_i e;subst e;rw[Eh,Qb rfl];simp only at hg |-;rw[<-hg]
  ·rename_i e;rw[Eh,Qc]
   ·exact h.each _ (List.getElem_mem hi)
   ·intro e2;apply e;have h1:(kvs.map (·.1))[j]'(by simpa using hl)=(kvs.map (·.1))[i]'(by simpa using hi):=by simp[he,e2]
    exact (List.getElem_inj (h₀:=by simpa using hl) (h₁:=by simpa using hi) h.nodup).1 h1
 ·rw[hk];rcases List.mem_append.1 hd with hd | hd
  ·exact h.all d hd
  ·rw[List.mem_singleton] at hd;subst hd;exact List.mem_map.2 ⟨_,gQ hj,rfl⟩
theorem GrpI.new{kvs:List ((Int×List UInt8)×List Span)}{l:List Copy}(h:GrpI kvs l){c:Copy}(hn:gM c∉kvs.map (·.1)):GrpI (kvs ++ [(gM c,[j8 c])]) (l ++ [c]):=by
 have h0:gq l (gM c) = []:=OU λd hd e=>hn (by rw[<-e];exact h.all d hd);refine⟨?_,λx hx=>?_,λd hd=>?_⟩
 ·rw[List.map_append,List.nodup_append];refine⟨h.nodup,by simp,λa ha b hb e=>?_⟩;simp at hb;subst hb;subst e;exact hn ha
 ·rcases List.mem_append.1 hx with hx | hx
  ·rw[Eh,Qc]
   ·exact h.each x hx
   ·intro e;exact hn (by rw[e];exact List.mem_map.2 ⟨x,hx,rfl⟩)
  ·rw[List.mem_singleton] at hx;subst hx;rw[Eh,Qb rfl,h0];rfl
 ·rw[List.map_append];rcases List.mem_append.1 hd with hd | hd
  ·exact List.mem_append_left _ (h.all d hd)
  ·rw[List.mem_singleton] at hd;subst hd;simp
def oS(a b:Span):Prop:=a.frm<b.til/\b.frm<a.til
theorem oS.symm{a b:Span}(h:oS a b):oS b a:=⟨h.2,h.1⟩
def ID(m:List Span):Prop:=∀ i (h:i+1<m.length),m[i].til<=m[i+1].frm
theorem aGQ{m l:List Span}(hp:m.Perm l)(hs:m.Pairwise λa b=>a.frm<=b.frm)(hf:∀ s∈l,s.frm<s.til):ID m↔l.Pairwise λa b=>¬ oS a b:=by
 rw[<-hp.pairwise_iff (R:=λa b=>¬ oS a b) (λ{a b} h k=>h k.symm)];have Pz:∀ s∈m,s.frm<s.til:=λs hs=>hf s (hp.mem_iff.1 hs);clear hp hf;constructor
 ·intro h;rw[List.pairwise_iff_getElem];intro i j hi hj dj ho;have key:∀ d,∀ (h1:i+d+1<m.length),(m[i]'(by omega)).til<=(m[i+d+1]'h1).frm:=by
   intro d
   induction d with
   | zero=>intro h1;exact h i h1
   | succ d ih=>
    intro h1;have h2:=ih (by omega);have h3:=h (i+d+1) (by omega);have h4:=Pz _ (List.getElem_mem (show i+d+1<m.length by omega));have e:i+(d+1)+1=i+d+1+1:=by omega
    simp only[e];omega
  obtain⟨d,rfl⟩:∃ d,j=i+d+1:=⟨j - i - 1,by omega⟩
  have:=key d hj
  have:=ho.2
  omega
 ·intro h i hi;rw[List.pairwise_iff_getElem] at h hs;have h1:=h i (i+1) (by omega) hi (by omega);have h2:=hs i (i+1) (by omega) hi (by omega);have h3:=Pz _ (List.getElem_mem hi);unfold oS at h1;omega
theorem XJ(l:List Copy):(l.Pairwise λc d=>¬ kH c d)↔∀ p,(gq l p).Pairwise λa b=>¬ oS a b:=by
 induction l with
 | nil=>simp[gq]
 | cons c l ih=>
  rw[List.pairwise_cons,ih];constructor
  ·rintro⟨h1,h2⟩ p;by_cases hp:gM c=p
   ·have e:gq (c::l) p=j8 c::gq l p:=by unfold gq;simp[hp]
    rw[e,List.pairwise_cons];refine⟨λs hs=>?_,h2 p⟩;obtain⟨d,hd,rfl⟩:=List.mem_map.1 hs;obtain⟨gu,jr⟩:=List.mem_filter.1 hd;have hk:gM d=gM c:=by rw[hp];simpa using jr
    intro ho;unfold gM at hk;simp only[Prod.mk.injEq] at hk;exact h1 d gu ⟨hk.1.symm,hk.2.symm,ho.1,ho.2⟩
   ·have e:gq (c::l) p=gq l p:=by unfold gq;simp[hp]
    rw[e];exact h2 p
  ·intro h;refine⟨λd hd l9=>?_,λp=>?_⟩
   ·have h1:=h (gM c);have e:gq (c::l) (gM c)=j8 c::gq l (gM c):=by unfold gq;simp
    rw[e,List.pairwise_cons] at h1;refine h1.1 (j8 d) (List.mem_map.2 ⟨d,List.mem_filter.2 ⟨hd,?_⟩,rfl⟩) ⟨l9.2.2.1,l9.2.2.2⟩;unfold gM;simp[l9.1,l9.2.1]
   ·have h1:=h p;by_cases hp:gM c=p
    ·have e:gq (c::l) p=j8 c::gq l p:=by unfold gq;simp[hp]
     rw[e,List.pairwise_cons] at h1;exact h1.2
    ·have e:gq (c::l) p=gq l p:=by unfold gq;simp[hp]
     rwa [e] at h1
theorem GrpI.ok{kvs:List ((Int×List UInt8)×List Span)}{l:List Copy}(h:GrpI kvs l):(l.Pairwise λc d=>¬ kH c d)↔∀ x∈kvs,x.2.Pairwise λa b=>¬ oS a b:=by
 rw[XJ];constructor
 ·intro h1 x hx;rw[h.each x hx];exact h1 _
 ·intro h1 p;by_cases hp:p∈kvs.map (·.1)
  ·obtain⟨x,hx,rfl⟩:=List.mem_map.1 hp;rw[<-h.each x hx];exact h1 x hx
  ·rw[OU λc hc e=>hp (by rw[<-e];exact h.all c hc)];exact List.Pairwise.nil
end Np
section
open Go.RowKit
def Np.Bo(l:List Np.Signed)(k:Nat)(x:Np.Signed):Prop:=∀ p,0<k->l[k - 1]?=some p->p.set.name=x.set.name->x.set.type≠3/\(Np.ob (l.take (k+1))=x.set.name->x.set.type=8)
def Np.Bp(l:List Np.Signed):Prop:=∀ k x,l[k]?=some x->Np.Bo l k x
theorem ajQ{l:List Np.Signed}{k:Nat}{x:Np.Signed}(hx:l[k]?=some x):Np.ob (l.take (k+1))=if x.set.type=3 then x.set.name else Np.ob (l.take k):=by
 obtain⟨hk,rfl⟩:=cQ.1 hx;rw[fQ hk,Np.KP]
theorem aEY(a:ByteArray)(v:Value)(l:List Np.Signed)(bW:l.length<=20000)(hv:∀ x∈l,x.set.name≠[])(w:World)(hd:SlR bO 5 w w.heap.size v l) :
 Calls prog 161 #[.agg #[.string a,v]] w (a0X w.heap.size w (.bool (Np.yes (Np.Bp l)))):=by
 obtain⟨r,hr⟩:=acJ (Np.yes (Np.Bp l));rw[hr];have HR:=jq hr;have HD:=jq hd;have HV:=jq hv;obtain⟨A,c,rfl,bq,bM⟩:=ak hd;clear hr hd hv;have HW:Hid (∀ o,Below w.heap.size w (w.alloc o)):=jq (λo=>(vQ _ w).alloc (bQ _) _);go_enter func161,ntmps161;go_wp2_with fail;obtain⟨w1,ah⟩:=acJ (w.alloc (.cells #[.string a,.slice A l.length c] 44));have c1:w1.cell? ⟨w.heap.size,1,none⟩=some (.slice A l.length c):=by rw[<-ah];simp[go_sem]
 have bd:w1.heap.size=w.heap.size+1:=by rw[<-ah];simp
 have av:Hid (Below w.heap.size w w1):=jq (by rw[<-ah];exact HW.out _);rw[ah];clear ah;go_loopw [3,4] (λva i wr=>∃ (k:Nat) (sa:ByteArray),k<=l.length/\i = .int .i64 k/\va = .string sa/\Hid (sa.data.toList=Np.ob (l.take k))/\Hid (Below w1.heap.size w1 wr)/\Hid (∀ j x,j<k->l[j]?=some x->Np.Bo l j x)) (λ_ i _=>l.length - (intOf i).toNat)
 case atStart=>exact⟨0,⟨#[]⟩,jQ _,rfl,rfl,jq rfl,jq (vQ _ _),jq (λj g hj=>by omega)⟩
 case round=>
  obtain⟨k,sa,hk,rfl,rfl,vS,HB,HA⟩:=hrel;have an:=HB.out.size;have d1:wr.cell? ⟨w.heap.size,1,none⟩=some (.slice A l.length c):=aaJ HB.out c1;have aG:=acZ av HB.out;have dK:w.heap.size<wr.heap.size:=by omega
  by_cases ab:k<l.length
  ·obtain⟨x,aa⟩:∃ x,l[k]?=some x:=⟨_,aQ ab⟩;obtain⟨b,o,c',sn,dv,sv,hA,bA,_,aw,cB,aK,aS,f0,f1,f2,f3,f4⟩:=fE (HD.out.keep bj aG.out) aa
   cases hA
   have HX:=jq aa;have aT:=jq aw;have qN:=jq (ajQ aa);have hne:(sn.toList == [])=false:=by rw[dQ,aw];simpa using HV.out x (gQ aa)
   have bC:Hid (Np.Bo l k x->∀ j y,j<k+1->l[j]?=some y->Np.Bo l j y):=jq (λh j y hj hy=>by
    by_cases e:j=k
    ·subst e;rw[aa] at hy;cases hy;exact h
    ·exact HA.out j y (by omega) hy)
   have HF:Hid (¬ Np.Bo l k x->r=false):=jq (λh=>by rw[<-HR.out];exact Np.aF λq=>h (q k x aa));have bJ:(0:Int)<=(k:Int):=by omega
   have bI:(k:Int)<(l.length:Int):=by omega
   have ay:b<wr.heap.size:=by omega
   have Ju:∃ q:Bool,Hid (q=true↔∃ p,0<k/\l[k - 1]?=some p/\p.set.name=x.set.name)/\((k=0/\q=false)\/∃ (m:Nat) (sy:ByteArray),k=m+1/\wr.cell? ⟨b,o+m * 5,none⟩=some (.string sy)/\(sy.toList == sn.toList)=q):=by
    by_cases gX:k=0
    ·exact⟨false,jq ⟨λh=>(by cases h),λ⟨p,h,_⟩=>(by omega)⟩,.inl ⟨gX,rfl⟩⟩
    ·obtain⟨m,rfl⟩:∃ m,k=m+1:=⟨k - 1,by omega⟩;obtain⟨y,hy⟩:∃ y,l[m]?=some y:=⟨_,aQ (by omega)⟩;obtain⟨b9,o9,c9,sy,dv9,sv9,hA,_,_,gk,_,_,_,q0,q1,_⟩:=fE (HD.out.keep bj aG.out) hy;simp only[Value.slice.injEq,Option.some.injEq,Addr.mk.injEq,and_true,true_and] at hA;obtain⟨⟨rfl,rfl⟩,-⟩:=hA;refine⟨_,jq ?_,.inr ⟨m,sy,rfl,q0,rfl⟩⟩;rw[dQ,dQ,gk,aT.out,beq_iff_eq];constructor
     ·intro h;exact⟨y,by omega,by simpa using hy,h⟩
     ·rintro⟨p,_,hp,h⟩;rw[show m+1 - 1=m by omega,hy] at hp
      cases hp;exact h
   obtain⟨qb,sh,Cy⟩:=Ju;obtain⟨ty,dT⟩:=acJ x.set.type;have dF:=jq dT;rw[dT] at f1;clear aa aw aK aS dT f2 f3 f4;have js:∃ m:Nat,(decide ((0:Int)<(k:Int))=false/\decide (0<k)=false/\qb=false)\/(decide ((0:Int)<(k:Int))=true/\decide (0<k)=true/\IntKind.i64.wrap ((k:Int) - 1)=(m:Int)/\(k:Int) - 1=(m:Int)/\(0:Int)<=(m:Int)/\(m:Int)<(l.length:Int)/\∃ sy:ByteArray,wr.cell? ⟨b,o+m * 5,none⟩=some (.string sy)/\(sy.toList == sn.toList)=qb):=by
    rcases Cy with ⟨gX,h⟩ | ⟨m,sy,mK,g0,sZ⟩
    ·exact⟨0,.inl ⟨by simp;omega,by simp;omega,h⟩⟩
    ·exact⟨m,.inr ⟨by simp;omega,by simp;omega,by rw[IntWalk.i64_in _ (by omega)];omega,by omega,by omega,by omega,sy,g0,sZ⟩⟩
   clear Cy;obtain⟨m,js⟩:=js;by_cases h3:ty=3
   ·subst h3;have uD:Hid (sn.data.toList=Np.ob (l.take (k+1))):=jq (by rw[qN.out,Qb dF.out,aT.out]);rcases js with ⟨jP,jt,rfl⟩ | ⟨jP,jt,Kv,Fe,la,ru,sy,g0,sZ⟩
    ·have bH:=jq (bC.out (λp h0 hp he=>by have:=sh.out.2 ⟨p,h0,hp,he⟩;cases this));go_wp2_with fail;go_quiet (fail);go_wp2_with fail;go_roundw
     case rel=>exact⟨k+1,sn,by omega,by go_num,rfl,uD,jq (below_drewN HB.out _),jq bH.out⟩
     case measure=>simp[intOf] <;> omega
    ·cases qb with
     | false=>
      have bH:=jq (bC.out (λp h0 hp he=>by have:=sh.out.2 ⟨p,h0,hp,he⟩;cases this));go_wp2_with fail;go_quiet (fail);go_wp2_with fail;go_roundw
      case rel=>exact⟨k+1,sn,by omega,by go_num,rfl,uD,jq (below_drewN HB.out _),jq bH.out⟩
      case measure=>simp[intOf] <;> omega
     | true=>
      have oO:Hid (r=false):=jq (HF.out λh=>by
       obtain⟨p,h0,hp,he⟩:=sh.out.1 (by simp);exact (h p h0 hp he).1 dF.out)
      go_wp2_with fail;go_quiet (fail);obtain⟨w2,aj⟩:=acJ (wr.drewN nq);rw[aj];have ac:Below wr.heap.size wr w2:=by rw[<-aj];exact below_drewN (vQ _ _) _
      have t1:w2.cell? ⟨w.heap.size,1,none⟩=some (.slice (some ⟨b,o,none⟩) l.length c):=aaJ ac d1;have t2:w2.cell? ⟨b,o+k * 5,none⟩=some (.string sn):=aaJ ac f0;have fG:=acZ aG ac;clear ac aj;go_wp2_with fail;go_ret;exact⟨ag oO.out.symm,fG.out⟩
   ·have h3':(ty == 3)=false:=by simpa using h3
    have h3'':(ty != 3)=true:=by simpa using h3
    have uD:Hid (sa.data.toList=Np.ob (l.take (k+1))):=jq (by rw[qN.out,Qc (by rw[dF.out];exact h3)];exact vS.out);rcases js with ⟨jP,jt,rfl⟩ | ⟨jP,jt,Kv,Fe,la,ru,sy,g0,sZ⟩
    ·have bH:=jq (bC.out (λp h0 hp he=>by have:=sh.out.2 ⟨p,h0,hp,he⟩;cases this));go_wp2_with fail;go_quiet (fail);go_wp2_with fail;go_roundw
     case rel=>exact⟨k+1,sa,by omega,by go_num,rfl,uD,jq (below_drewN HB.out _),jq bH.out⟩
     case measure=>simp[intOf] <;> omega
    ·cases qb with
     | false=>
      have bH:=jq (bC.out (λp h0 hp he=>by have:=sh.out.2 ⟨p,h0,hp,he⟩;cases this));go_wp2_with fail;go_quiet (fail);go_wp2_with fail;go_roundw
      case rel=>exact⟨k+1,sa,by omega,by go_num,rfl,uD,jq (below_drewN HB.out _),jq bH.out⟩
      case measure=>simp[intOf] <;> omega
     | true=>
      obtain⟨qe,E8⟩:=acJ (sn.toList == sa.toList);have MX:Hid (qe=true↔Np.ob (l.take (k+1))=x.set.name):=jq (by rw[<-E8,dQ,dQ,aT.out,uD.out,beq_iff_eq];exact eq_comm);obtain⟨q8,xq⟩:=acJ (ty != 8);have DG:Hid (q8=true↔x.set.type≠8):=jq (by rw[<-xq,dF.out];simp);have pS:Hid (x.set.type≠3):=jq (by rw[dF.out];exact h3);clear h3;go_wp2_with fail;go_quiet (fail);obtain⟨w2,aj⟩:=acJ (wr.drewN nq);rw[aj];have ac:Below wr.heap.size wr w2:=by rw[<-aj];exact below_drewN (vQ _ _) _
      have t1:w2.cell? ⟨w.heap.size,1,none⟩=some (.slice (some ⟨b,o,none⟩) l.length c):=aaJ ac d1;have t2:w2.cell? ⟨b,o+k * 5,none⟩=some (.string sn):=aaJ ac f0;have fG:=acZ aG ac;have Nj:=jq (HB.out.trans (ac.mono HB.out.size));clear ac aj
      cases qe with
      | false=>
       have bH:=jq (bC.out (λp h0 hp he=>⟨pS.out,λhl=>by have:=MX.out.2 hl;cases this⟩));go_wp2_with fail;go_roundw
       case rel=>exact⟨k+1,sa,by omega,by go_num,rfl,uD,jq Nj.out,jq bH.out⟩
       case measure=>simp[intOf] <;> omega
      | true=>
       cases q8 with
       | false=>
        have bH:=jq (bC.out (λp h0 hp he=>⟨pS.out,λ_=>Decidable.not_not.1 λh8=>by have:=DG.out.2 h8;cases this⟩));go_wp2_with fail;go_roundw
        case rel=>exact⟨k+1,sa,by omega,by go_num,rfl,uD,jq Nj.out,jq bH.out⟩
        case measure=>simp[intOf] <;> omega
       | true=>
        have oO:Hid (r=false):=jq (HF.out λh=>by
         obtain⟨p,h0,hp,he⟩:=sh.out.1 (by simp);exact DG.out.1 (by simp) ((h p h0 hp he).2 (MX.out.1 (by simp))))
        go_wp2_with fail;go_ret;exact⟨ag oO.out.symm,fG.out⟩
  ·go_wp2_with fail;go_ret;refine⟨ag ?_,aG.out⟩;rw[<-HR.out];exact (Np.bh λi x hx=>HA.out i x (by have:=(cQ.1 hx).1;omega) hx).symm
theorem R0(t:Int)(b:Bool)(w:World) :
 Calls prog 236 #[.int .i64 t,.bool b] w (a1Q w (.bool (Np.km t b))):=by
 by_cases h3:t=3
 ·subst h3
  cases b
  all_goals
   go_enter func236,ntmps236;go_wp2_with fail;go_ret;exact⟨rfl,rfl⟩
 ·by_cases h6:t=6
  ·subst h6
   cases b
   all_goals
    go_enter func236,ntmps236;go_wp2_with fail;go_ret;exact⟨rfl,rfl⟩
  ·by_cases h4:t=4
   ·subst h4
    cases b
    all_goals
     go_enter func236,ntmps236;go_wp2_with fail;go_ret;exact⟨rfl,rfl⟩
   ·by_cases h7:t=7
    ·subst h7
     cases b
     all_goals
      go_enter func236,ntmps236;go_wp2_with fail;go_ret;exact⟨rfl,rfl⟩
    ·have HF:Hid (Np.km t b=true):=jq (by unfold Np.km;rw[Qc (by omega),Qc (by omega)]);have g3:(t != 3)=true:=by simpa using h3
     have g6:(t != 6)=true:=by simpa using h6
     have g4:(t != 4)=true:=by simpa using h4
     have g7:(t != 7)=true:=by simpa using h7
     rw[HF.out];clear h3 h6 h4 h7
     cases b
     all_goals
      go_enter func236,ntmps236;go_wp2_with fail;go_ret;exact⟨rfl,rfl⟩
def Np.atI(l:List Np.Signed)(n:List UInt8)(t:Int):Int:=match l.findIdx? λx=>(x.set.name == n)&&decide (x.set.type=t) with | none=>-1 | some i=>i
theorem NV{l:List Np.Signed}{n:List UInt8}{t:Int}(h:∀ (j:Nat) (x:Np.Signed),l[j]?=some x->¬ (x.set.name=n/\x.set.type=t)):Np.atI l n t = -1:=by
 unfold Np.atI
 have:l.findIdx? (λx=>(x.set.name == n)&&decide (x.set.type=t))=none:=by
  rw[List.findIdx?_eq_none_iff];intro x hx;obtain⟨j,hj,rfl⟩:=nQ.1 hx
  have:=h j _ (aQ hj)
  rw[Bool.and_eq_false_iff];by_cases e:l[j].set.name=n
  ·right;simpa using λe2=>this ⟨e,e2⟩
  ·left;simpa using e
 rw[this]
theorem VQ{l:List Np.Signed}{n:List UInt8}{t:Int}{k:Nat}{x:Np.Signed}(hx:l[k]?=some x)(he:x.set.name=n/\x.set.type=t)(h:∀ (j:Nat) (y:Np.Signed),j<k->l[j]?=some y->¬ (y.set.name=n/\y.set.type=t)):Np.atI l n t=k:=by
 unfold Np.atI;obtain⟨hk,rfl⟩:=cQ.1 hx
 have:l.findIdx? (λx=>(x.set.name == n)&&decide (x.set.type=t))=some k:=by
  rw[List.findIdx?_eq_some_iff_getElem];refine⟨hk,by simp[he.1,he.2],λj hj=>?_⟩
  have:=h j _ hj (aQ (by omega))
  simpa using this
 rw[this]
theorem NU(l:List Np.Signed)(n:List UInt8)(t:Int):(Np.atI l n t<0)↔¬ Np.kp l n t:=by
 by_cases h:Np.kp l n t
 ·obtain⟨x,hx,h1,h2⟩:=h;refine⟨λab=>?_,λhn=>absurd ⟨x,hx,h1,h2⟩ hn⟩;unfold Np.atI at ab
  cases hf:l.findIdx? (λx=>(x.set.name == n)&&decide (x.set.type=t)) with
  | none=>
   rw[List.findIdx?_eq_none_iff] at hf
   have:=hf x hx
   simp[h1,h2] at this
  | some i=>rw[hf] at ab;dsimp only at ab;omega
 ·refine⟨λ_=>h,λ_=>?_⟩;rw[NV (λj x hx he=>h ⟨x,gQ hx,he⟩)];decide
theorem RW(a:ByteArray)(v:Value)(l:List Np.Signed)(q:ByteArray)(t:Int)(w:World)(hd:SlR bO 5 w w.heap.size v l) :
 Calls prog 235 #[.agg #[.string a,v],.agg #[.string q,.int .i64 t]] w (a0X w.heap.size w (.int .i64 (Np.atI l q.data.toList t))):=by
 obtain⟨r,hr⟩:=acJ (Np.atI l q.data.toList t);rw[hr];have HR:=jq hr;have HD:=jq hd;obtain⟨A,c,rfl,bq,bM⟩:=ak hd;clear hr hd;have HW:Hid (∀ o o',Below w.heap.size w ((w.alloc o).alloc o')):=jq (λo o'=>((vQ _ w).alloc (bQ _) _).alloc (by simp) _);go_enter func235,ntmps235;go_wp2_with fail;obtain⟨w1,ah⟩:=acJ ((w.alloc (.cells #[.string a,.slice A l.length c] 44)).alloc (.cells #[.string q,.int .i64 t] 31));have c1:w1.cell? ⟨w.heap.size,1,none⟩=some (.slice A l.length c):=by rw[<-ah];simp[go_sem]
 have q0:w1.cell? ⟨w.heap.size+1,0,none⟩=some (.string q):=by rw[<-ah];simp[go_sem]
 have q1:w1.cell? ⟨w.heap.size+1,1,none⟩=some (.int .i64 t):=by rw[<-ah];simp[go_sem]
 have bd:w1.heap.size=w.heap.size+2:=by rw[<-ah];simp
 have av:Hid (Below w.heap.size w w1):=jq (by rw[<-ah];exact HW.out _ _);rw[ah];clear ah;go_loopw [5] (λi wr=>∃ k:Nat,k<=l.length/\i = .int .i64 k/\Hid (Below w1.heap.size w1 wr)/\Hid (∀ j x,j<k->l[j]?=some x->¬ (x.set.name=q.data.toList/\x.set.type=t))) (λi _=>l.length - (intOf i).toNat)
 case atStart=>exact⟨0,jQ _,rfl,jq (vQ _ _),jq (λj g hj=>by omega)⟩
 case round=>
  obtain⟨k,hk,rfl,HB,HA⟩:=hrel;have an:=HB.out.size;have d1:wr.cell? ⟨w.heap.size,1,none⟩=some (.slice A l.length c):=aaJ HB.out c1;have e0:wr.cell? ⟨w.heap.size+1,0,none⟩=some (.string q):=aaJ HB.out q0;have e1:wr.cell? ⟨w.heap.size+1,1,none⟩=some (.int .i64 t):=aaJ HB.out q1;have aG:=acZ av HB.out;have dK:w.heap.size+1<wr.heap.size:=by omega
  by_cases ab:k<l.length
  ·obtain⟨x,aa⟩:∃ x,l[k]?=some x:=⟨_,aQ ab⟩;obtain⟨b,o,c',sn,dv,sv,hA,bA,_,aw,cB,aK,aS,f0,f1,f2,f3,f4⟩:=fE (HD.out.keep bj aG.out) aa
   cases hA
   have HX:=jq aa;have aT:=jq aw;have bC:Hid (¬ (x.set.name=q.data.toList/\x.set.type=t)->∀ j y,j<k+1->l[j]?=some y->¬ (y.set.name=q.data.toList/\y.set.type=t)):=jq (λh j y hj hy=>by
    by_cases e:j=k
    ·subst e;rw[aa] at hy;cases hy;exact h
    ·exact HA.out j y (by omega) hy)
   have bJ:(0:Int)<=(k:Int):=by omega
   have bI:(k:Int)<(l.length:Int):=by omega
   have ay:b<wr.heap.size:=by omega
   obtain⟨b1,Yl⟩:=acJ (sn.toList == q.toList);obtain⟨b2,Jt⟩:=acJ (x.set.type == t);have H1:Hid (b1=true↔x.set.name=q.data.toList):=jq (by rw[<-Yl,dQ,dQ,aw,beq_iff_eq]);have H2:Hid (b2=true↔x.set.type=t):=jq (by rw[<-Jt,beq_iff_eq]);clear aa aw aK aS f2 f3 f4
   cases b1 with
   | false=>
    have HN:=jq (bC.out λh=>by have:=H1.out.2 h.1;cases this);go_wp2_with fail;go_quiet (fail);go_wp2_with fail;go_roundw
    case rel=>exact⟨k+1,by omega,by go_num,jq (below_drewN HB.out _),jq HN.out⟩
    case measure=>simp[intOf] <;> omega
   | true=>
    cases b2 with
    | false=>
     have HN:=jq (bC.out λh=>by have:=H2.out.2 h.2;cases this);go_wp2_with fail;go_quiet (fail);go_wp2_with fail;go_roundw
     case rel=>exact⟨k+1,by omega,by go_num,jq (below_drewN HB.out _),jq HN.out⟩
     case measure=>simp[intOf] <;> omega
    | true=>
     have HF:Hid (r=k):=jq (by rw[<-HR.out];exact VQ HX.out ⟨H1.out.1 rfl,H2.out.1 rfl⟩ HA.out);go_wp2_with fail;go_quiet (fail);go_wp2_with fail;go_ret;exact⟨j5 HF.out.symm,below_drewN aG.out _⟩
  ·have HF:Hid (r = -1):=jq (by rw[<-HR.out];exact NV λj x hx=>HA.out j x (by have:=(cQ.1 hx).1;omega) hx);go_wp2_with fail;go_ret;exact⟨j5 HF.out.symm,aG.out⟩
theorem aFQ(a:ByteArray)(v:Value)(l:List Np.Signed)(w:World)(hd:SlR bO 5 w w.heap.size v l) :
 Calls prog 160 #[.agg #[.string a,v]] w (a0X w.heap.size w (.bool (Np.yes (Np.ApexH a.data.toList l)))):=by
 obtain⟨r,hr⟩:=acJ (Np.yes (Np.ApexH a.data.toList l));rw[hr];have HR:=jq hr;have HD:=jq hd;obtain⟨A,c,rfl,bq,bM⟩:=ak hd;clear hr hd;have HW:Hid (∀ o,Below w.heap.size w (w.alloc o)):=jq (λo=>(vQ _ w).alloc (bQ _) _);go_enter func160,ntmps160;go_wp2_with fail;obtain⟨w1,ah⟩:=acJ (w.alloc (.cells #[.string a,.slice A l.length c] 44));have c0:w1.cell? ⟨w.heap.size,0,none⟩=some (.string a):=by rw[<-ah];simp[go_sem]
 have c1:w1.cell? ⟨w.heap.size,1,none⟩=some (.slice A l.length c):=by rw[<-ah];simp[go_sem]
 have bd:w1.heap.size=w.heap.size+1:=by rw[<-ah];simp
 have av:Hid (Below w.heap.size w w1):=jq (by rw[<-ah];exact HW.out _);rw[ah];clear ah;refine (RW a _ l a 4 _ (HD.out.later bj cC av.out)).mono ?_;rintro e w2 ⟨rfl,ac⟩;have aN:=ac.size;have ai:=acZ av ac;replace c0:=aaJ ac c0;replace c1:=aaJ ac c1;clear ac;obtain⟨i4,JT⟩:=acJ (Np.atI l a.data.toList 4);have H4:Hid (i4<0↔¬ Np.kp l a.data.toList 4):=jq (by rw[<-JT];exact NU _ _ _);rw[JT];clear JT;by_cases h4:i4<0
 ·have HX:Hid (r=false):=jq (by rw[<-HR.out];exact Np.aF λh=>H4.out.1 h4 h.start);go_wp2_with fail;go_ret;exact⟨ag HX.out.symm,ai.out⟩
 ·have qK:Hid (Np.kp l a.data.toList 4):=jq (Classical.not_not.1 λh=>h4 (H4.out.2 h));go_wp2_with fail;refine (RW a _ l a 2 _ (HD.out.later bj cC ai.out)).mono ?_;rintro e w3 ⟨rfl,aq⟩;have eR:=aq.size;have ar:=acZ ai aq;replace c0:=aaJ aq c0;replace c1:=aaJ aq c1;clear aq;obtain⟨i2,wP⟩:=acJ (Np.atI l a.data.toList 2);have H2:Hid (i2<0↔¬ Np.kp l a.data.toList 2):=jq (by rw[<-wP];exact NU _ _ _);rw[wP];clear wP;by_cases h2:i2<0
  ·have HX:Hid (r=false):=jq (by rw[<-HR.out];exact Np.aF λh=>H2.out.1 h2 h.server);go_wp2_with fail;go_ret;exact⟨ag HX.out.symm,ar.out⟩
  ·have dp:Hid (Np.kp l a.data.toList 2):=jq (Classical.not_not.1 λh=>h2 (H2.out.2 h));go_wp2_with fail;go_loopw [3] (λi wr=>∃ k:Nat,k<=l.length/\i = .int .i64 k/\Hid (Below w3.heap.size w3 wr)/\Hid (∀ j x,j<k->l[j]?=some x->Np.km x.set.type (x.set.name == a.data.toList)=true)) (λi _=>l.length - (intOf i).toNat)
   case atStart=>exact⟨0,jQ _,rfl,jq (vQ _ _),jq (λj g hj=>by omega)⟩
   case round=>
    obtain⟨k,hk,rfl,HB,HA⟩:=hrel;have an:=HB.out.size;have d0:wr.cell? ⟨w.heap.size,0,none⟩=some (.string a):=aaJ HB.out c0;have d1:wr.cell? ⟨w.heap.size,1,none⟩=some (.slice A l.length c):=aaJ HB.out c1;have aG:=acZ ar HB.out;have dK:w.heap.size<wr.heap.size:=by omega
    by_cases ab:k<l.length
    ·obtain⟨x,aa⟩:∃ x,l[k]?=some x:=⟨_,aQ ab⟩;obtain⟨b,o,c',sn,dv,sv,hA,bA,_,aw,cB,aK,aS,f0,f1,f2,f3,f4⟩:=fE (HD.out.keep bj aG.out) aa
     cases hA
     have bJ:(0:Int)<=(k:Int):=by omega
     have bI:(k:Int)<(l.length:Int):=by omega
     have ay:b<wr.heap.size:=by omega
     have heq:(sn.toList == a.toList)=(x.set.name == a.data.toList):=by rw[dQ,dQ,aw]
     have vE:Hid (Np.km x.set.type (x.set.name == a.data.toList)=true->∀ j y,j<k+1->l[j]?=some y->Np.km y.set.type (y.set.name == a.data.toList)=true):=jq (λh j y hj hy=>by
      by_cases e:j=k
      ·subst e;rw[aa] at hy;cases hy;exact h
      ·exact HA.out j y (by omega) hy)
     have GT:Hid (Np.km x.set.type (x.set.name == a.data.toList)=false->r=false):=jq (λh=>by
      rw[<-HR.out];exact Np.aF λq=>by have:=q.fits x (gQ aa);rw[h] at this;cases this)
     generalize (x.set.name == a.data.toList)=bb at *;clear aa aw aK aS f2 f3 f4
     cases hf:Np.km x.set.type bb with
     | true=>
      have HF:=jq (vE.out hf);have bL:∀ w,Calls prog 236 #[.int .i64 x.set.type,.bool bb] w (a1Q w (.bool true)):=λw=>by rw[<-hf];exact R0 _ _ _
      have HC:=jq bL;rw[<-heq] at bL;have aZ:=jq bL;clear hf bL heq;go_wp2_with fail;go_quiet (first | (go_at_call 236;exact Calls.quiet_of_same (Calls.still_same (aZ.out _))) | (go_at_call 236;exact Calls.quiet_of_same (Calls.still_same (HC.out _))));go_wp2_with fail;go_roundw
      case rel=>exact⟨k+1,by omega,by go_num,jq (below_drewN HB.out _),jq HF.out⟩
      case measure=>simp[intOf] <;> omega
     | false=>
      have HF:=jq (GT.out hf);have bL:∀ w,Calls prog 236 #[.int .i64 x.set.type,.bool bb] w (a1Q w (.bool false)):=λw=>by rw[<-hf];exact R0 _ _ _
      have HC:=jq bL;rw[<-heq] at bL;have aZ:=jq bL;clear hf bL heq;go_wp2_with fail;go_quiet (first | (go_at_call 236;exact Calls.quiet_of_same (Calls.still_same (aZ.out _))) | (go_at_call 236;exact Calls.quiet_of_same (Calls.still_same (HC.out _))));go_wp2_with fail;go_ret;exact⟨ag HF.out.symm,below_drewN aG.out _⟩
    ·go_wp2_with fail;go_ret;refine⟨ag ?_,aG.out⟩;rw[<-HR.out];refine (Np.bh ⟨qK.out,dp.out,λx hx=>?_⟩).symm;obtain⟨j,hj,rfl⟩:=nQ.1 hx;exact HA.out j _ (by omega) (aQ hj)
theorem lD.fresh(b:Nat)(r:Option Nat)(W:World)(T:TypeId)(ns:List Int)(hb:b<W.heap.size)(hr:∀ k,r=some k->k<W.heap.size):lD b r (W.alloc (.cells (ns.map (Value.int .i64)).toArray T)) (.slice (some ⟨W.heap.size,0,none⟩) ns.length ns.length) ns:=by
 refine⟨_,_,rfl,bQ _,λi x hx=>⟨W.heap.size,0,rfl,by simp,by omega,λe=>by have:=hr _ e;omega,?_⟩⟩;rw[World.cell?_alloc_new];simp[hx]
structure KeyS(s:Np.Signed):Prop where
 name:s.set.name.length<=1000
 type:0<=s.set.type/\s.set.type<=1000000000
 life:0<=s.set.life/\s.set.life<=1000000000
 few:s.set.data.length<=100
 data:∀ d∈s.set.data,d.text.length<=1000/\(0<=d.n/\d.n<=1000000000)/\0<=d.m/\d.m<=1000000000
 fewS:s.sigs.length<=100
 sigs:∀ g∈s.sigs,g.zone.length<=1000/\(0<=g.key/\g.key<=1000000000)/\(0<=g.alg/\g.alg<=1000000000)/\(0<=g.frm/\g.frm<=1000000000)/\(0<=g.til/\g.til<=1000000000)/\0<=g.sum/\g.sum<18446744073709551616
def jc(f:List (List UInt8))(d:List Np.Datum):List UInt8:=Np.cJ (f++d.flatMap Np.rg)
def jd(f:List (List UInt8))(g:List Np.Sig):List UInt8:=Np.cJ (f++g.flatMap Np.tn)
theorem ND{f:List (List UInt8)}{d:List Np.Datum}{k:Nat}{x:Np.Datum}(hx:d[k]?=some x):jc f (d.take (k+1))=jc f (d.take k)++Np.cJ (x.text :: [x.n,x.m].map Np.bl):=by
 obtain⟨hl,he⟩:=cQ.1 hx;rw[fQ hl,he];unfold jc;rw[List.flatMap_append,<-List.append_assoc,WY];rfl
theorem NE{f:List (List UInt8)}{d:List Np.Sig}{k:Nat}{x:Np.Sig}(hx:d[k]?=some x):jd f (d.take (k+1))=jd f (d.take k)++Np.cJ (x.zone :: [x.key,x.alg,x.frm,x.til].map Np.bl)++Np.cJ (Np.bl x.sum::([]:List Int).map Np.bl):=by
 obtain⟨hl,he⟩:=cQ.1 hx;rw[fQ hl,he];unfold jd;simp[Np.cJ,Np.tn]
theorem D8{s:List UInt8}{ns:List Int}(hs:s.length<=1000)(hn:ns.length<=4)(h:∀ n∈ns,n<=1000000000):(Np.cJ (s::ns.map Np.bl)).length<=1900:=by
 have:=RO ns s (λn hm=>by have:=h n hm;omega)
 rw[K4] at this;omega
theorem aOJ(s:ByteArray)(ty life:Int)(dv sv:Value)(d:List Np.Datum)(g:List Np.Sig)(w:World)(hP:go w)(hK:KeyS ⟨⟨s.data.toList,ty,life,d⟩,g⟩)(hd:SlR bR 3 w w.heap.size dv d)(hg:SlR cS 6 w w.heap.size sv g) :
 Calls prog 139 #[.agg #[.string s,.int .i64 ty,.int .i64 life,dv,sv]] w λe w'=>e = .returned (aA (Np.dE ⟨⟨s.data.toList,ty,life,d⟩,g⟩))/\Below w.heap.size w w':=by
 have HK:=jq hK;have HD:=jq hd;have HG:=jq hg;have HP:=jq hP;have Eu:=hP.lt;have no:Hid (∀ f,f = [s.data.toList,Np.bl ty,Np.bl life,Np.bl d.length]->jd (f++d.flatMap Np.rg) g=Np.dE ⟨⟨s.data.toList,ty,life,d⟩,g⟩):=jq (λf hf=>by subst hf;unfold jd Np.dE Np.yV;rw[List.append_assoc]);have tH:Hid (Np.cJ (s.data.toList :: [ty,life,(d.length:Int)].map Np.bl)=jc [s.data.toList,Np.bl ty,Np.bl life,Np.bl d.length] []):=jq (by simp[jc]);have an:s.size<=1000:=by have:=hK.name;rw[<-bn];exact this
 have ku:d.length<=100:=hK.few;have nR:g.length<=100:=hK.fewS;obtain⟨A1,c1,rfl,_,_⟩:=ak hd;obtain⟨A2,c2,rfl,_,_⟩:=ak hg;obtain⟨n1,bP⟩:=acJ d.length;obtain⟨n2,cr⟩:=acJ g.length;rw[bP] at HD no tH ku |-;rw[cr] at HG nR |-;have kL:=jq bP;have vN:=jq cr;clear bP cr hd hg hK hP;obtain⟨f0,lL⟩:∃ f0,[s.data.toList,Np.bl ty,Np.bl life,Np.bl n1]=f0:=⟨_,rfl⟩;have iY:=jq (no.out f0 lL.symm);rw[lL] at tH;clear lL no;obtain⟨X,hX⟩:=acJ w.heap.size;obtain⟨Y,hY⟩:=acJ (X+1);obtain⟨W0,dN⟩:=acJ (w.alloc (.cells #[.string s,.int .i64 ty,.int .i64 life,.slice A1 n1 c1,.slice A2 n2 c2] 42));have fk:W0.heap.size=Y:=by rw[<-dN,<-hY,<-hX];simp
 obtain⟨W1,am⟩:=acJ (W0.alloc (.cells #[.pointer none,.slice none 0 0] 198));have cP:Below X w W0:=by rw[<-dN];exact (vQ _ _).alloc (Nat.le_of_eq hX.symm) _
 have ay:Below Y W0 W1:=by rw[<-am];exact (vQ _ _).alloc (Nat.le_of_eq fk.symm) _
 have bd:W1.heap.size=Y+1:=by rw[<-am,<-fk];simp
 have Tw:Hid (Bld 198 Y Y none [] W1):=jq (by rw[<-am,<-fk];exact Bld.fresh _ _);have k0:W1.cell? ⟨X,0,none⟩=some (.string s):=aaJ ay (by rw[<-dN,<-hX];simp[go_sem]);have k1:W1.cell? ⟨X,1,none⟩=some (.int .i64 ty):=aaJ ay (by rw[<-dN,<-hX];simp[go_sem]);have k2:W1.cell? ⟨X,2,none⟩=some (.int .i64 life):=aaJ ay (by rw[<-dN,<-hX];simp[go_sem]);have k3:W1.cell? ⟨X,3,none⟩=some (.slice A1 n1 c1):=aaJ ay (by rw[<-dN,<-hX];simp[go_sem]);have k4:W1.cell? ⟨X,4,none⟩=some (.slice A2 n2 c2):=aaJ ay (by rw[<-dN,<-hX];simp[go_sem]);obtain⟨W2,ud⟩:=acJ (W1.alloc (.cells #[.int .i64 ty,.int .i64 life,.int .i64 (n1:Int)] 3));have ac:Below W1.heap.size W1 W2:=by rw[<-ud];exact (vQ _ _).alloc (bQ _) _
 have qS:Hid (lD Y none W2 (.slice (some ⟨Y+1,0,none⟩) 3 3) [ty,life,(n1:Int)]):=jq (by rw[<-ud,<-bd];exact lD.fresh Y none W1 _ [ty,life,(n1:Int)] (by omega) (λk h=>by cases h));have aV:Hid (Below Y W0 W2):=jq (ay.trans (ac.adZ));have aG:=jq cP;have kc:=jq ac;have O2:X<W1.heap.size:=by omega
 have X9:Y<W1.heap.size:=by omega
 clear cP ay ac;rw[hX] at HD HG Eu |-;go_enter func139,ntmps139;go_wp2_with fail;have aN:Y+1<=W2.heap.size:=by have:=kc.out.size;omega
 have j3:=aaJ kc.out k3;have j4:=aaJ kc.out k4;have pM:Hid (go W2):=jq (HP.out.keepAt (aG.out.trans (aV.out.adZ)) (by omega));clear k0 k1 k2 k3 k4 dN am ud hX O2 X9;have pS:Hid (∀ n∈[ty,life,(n1:Int)],0<=n/\n<=1000000000):=jq (λn hn=>by
  have h1:=HK.out.type;have h2:=HK.out.life;dsimp only at h1 h2;simp only[List.mem_cons,Qh,or_false] at hn;rcases hn with rfl | rfl | rfl <;> omega)
 refine (FF Y Y none [] s _ _ W2 (Tw.out.keep kc.out) qS.out (λn hn=>by have:=pS.out n hn;omega) (by simp) (by omega) (by simp) (by omega) pM.out (by omega)).mono ?_;rintro e w3 ⟨rfl,r3,nW,dX⟩;rw[tH.out] at nW;have aq:Below Y W2 w3:=dX.below (bQ _) (λk h=>by cases h) (by omega);have Uk:Hid (Bld 198 Y Y r3 (jc f0 []) w3):=jq (by simpa using nW);have eR:=aq.size;have i3:=aaJ aq j3;have i4:=aaJ aq j4;have ar:Hid (Below X w w3):=jq (aG.out.trans ((aV.out.trans aq).adZ));have m9:Hid ((jc f0 []).length<=2000):=jq (by
  rw[<-tH.out]
  have:=D8 (s:=s.data.toList) (ns:=[ty,life,(n1:Int)]) HK.out.name (by simp) (λn hn=>(pS.out n hn).2)
  omega)
 clear nW dX aq j3 j4;go_wp2_with fail;go_loopw [30] (λi wr=>∃ (k:Nat) (r:Option Nat),k<=n1/\i = .int .i64 k/\Y+1<=wr.heap.size/\Hid (Bld 198 Y Y r (jc f0 (d.take k)) wr)/\Hid (Below Y w3 wr)/\Hid ((jc f0 (d.take k)).length<=2000 * (k+1))) (λi _=>n1 - (intOf i).toNat)
 case atStart=>exact⟨0,r3,jQ _,rfl,by omega,by simpa using Uk,jq (vQ _ _),by simpa using m9⟩
 case round=>
  obtain⟨k,r,hk,rfl,O4,HL,bG,HA⟩:=hrel;have HB:=acZ ar bG.out;have q3:=aaJ bG.out i3;have q4:=aaJ bG.out i4;by_cases ab:k<n1
  ·obtain⟨x,aa⟩:∃ x,d[k]?=some x:=⟨_,aQ (by rw[kL.out];exact ab)⟩;obtain⟨b,o,c',t,hA,bA,_,ht,xx,g0,g1,g2⟩:=D7 (HD.out.keep bV HB.out) aa;simp only[Value.slice.injEq] at hA;obtain⟨rfl,-,rfl⟩:=hA;have HT:=jq (ND (f:=f0) aa);have HX:=jq (HK.out.data x (gQ aa));have oM:=jq ht;have jV:t.size<=1000:=by rw[<-bn,ht];exact HX.out.1
   clear aa ht xx;have bJ:(0:Int)<=(k:Int):=by omega
   have bI:(k:Int)<(n1:Int):=by omega
   obtain⟨w4,bY⟩:=acJ (wr.alloc (.cells #[.string t,.int .i64 x.n,.int .i64 x.m] 128));have fl:w4.heap.size=wr.heap.size+1:=by rw[<-bY];simp
   have aC:Below wr.heap.size wr w4:=by rw[<-bY];exact (vQ _ _).alloc (bQ _) _
   have p0:w4.cell? ⟨wr.heap.size,0,none⟩=some (.string t):=by rw[<-bY];simp[go_sem]
   have p1:w4.cell? ⟨wr.heap.size,1,none⟩=some (.int .i64 x.n):=by rw[<-bY];simp[go_sem]
   have p2:w4.cell? ⟨wr.heap.size,2,none⟩=some (.int .i64 x.m):=by rw[<-bY];simp[go_sem]
   obtain⟨w5,aX⟩:=acJ (w4.alloc (.cells #[.int .i64 x.n,.int .i64 x.m] 3));have aH:Below w4.heap.size w4 w5:=by rw[<-aX];exact (vQ _ _).alloc (bQ _) _
   have qd:Below wr.heap.size wr w5:=aC.trans (aH.adZ);have Hl:Hid (lD Y r w5 (.slice (some ⟨wr.heap.size+1,0,none⟩) 2 2) [x.n,x.m]):=jq (by rw[<-aX,<-fl];exact lD.fresh Y r w4 _ [x.n,x.m] (by omega) (λk h=>by have:=(HL.out.row.2.2 k h).2;omega));have qM:=jq (HL.out.keep qd);have nu:Hid (go w5):=jq (HP.out.keepAt (HB.out.trans (qd.adZ)) Eu);have ik:=qd.size;have qE:=jq qd;clear aC aH qd;go_wp2_with fail;clear bY aX p0 p1 p2;refine (FF Y Y r _ t _ _ w5 qM.out Hl.out (λn hn=>by
    have h1:=HX.out.2;simp only[List.mem_cons,Qh,or_false] at hn;rcases hn with rfl | rfl <;> omega) (by have:=HA.out;omega) (by omega) (by simp) (by omega) nu.out (by omega)).mono ?_
   rw[oM.out,<-HT.out];rintro e w6 ⟨rfl,r6,Cm,zt⟩;have aW:Below Y w5 w6:=zt.below (bQ _) (λk h=>(qM.out.row.2.2 k h).1) (by omega);have H6:=jq (And.intro Cm (bG.out.trans ((qE.out.adZ).trans aW)));have iy:=aW.size;have iT:Hid ((jc f0 (d.take (k+1))).length<=2000 * (k+1+1)):=jq (by
    rw[HT.out,List.length_append]
    have:=HA.out
    have:=D8 (s:=x.text) (ns:=[x.n,x.m]) HX.out.1 (by simp) (λn hn=>by
     have h1:=HX.out.2;simp only[List.mem_cons,Qh,or_false] at hn;rcases hn with rfl | rfl <;> omega)
    omega)
   clear Cm zt aW;go_wp2_with fail;go_roundw
   case rel=>exact⟨k+1,r6,by omega,by go_num,by omega,jq H6.out.1,jq H6.out.2,iT⟩
   case measure=>simp[intOf] <;> omega
  ·have f9:Hid (d.take k=d):=jq (kQ (by rw[kL.out];omega));have rS:Hid ((jc f0 d).length<=202000):=jq (by have:=HA.out;rw[f9.out] at this;omega);rw[f9.out] at HL;go_wp2_with fail;clear ab hk;obtain⟨wo,rfl⟩:=acY wr;obtain⟨f1,o6⟩:=acJ (f0++d.flatMap Np.rg);have tJ:=jq iY.out;rw[o6] at tJ;have Um:Hid (Bld 198 Y Y r (jd f1 []) wo):=jq (by have:=HL.out;unfold jc at this;rw[o6] at this;simpa [jd] using this);have HAS:Hid ((jd f1 []).length<=202000):=jq (by have:=rS.out;unfold jc at this;rw[o6] at this;simpa [jd] using this);clear o6;go_loopw [47] (λi wr=>∃ (k:Nat) (r:Option Nat),k<=n2/\i = .int .i64 k/\Y+1<=wr.heap.size/\Hid (Bld 198 Y Y r (jd f1 (g.take k)) wr)/\Hid (Below Y wo wr)/\Hid ((jd f1 (g.take k)).length<=202000+4000 * k)) (λi _=>n2 - (intOf i).toNat)
   case atStart=>exact⟨0,r,jQ _,rfl,by omega,by simpa using Um,jq (vQ _ _),by simpa using HAS⟩
   case round=>
    obtain⟨k,r,hk,rfl,O4,HL,ek,HA⟩:=hrel;have HC:=acZ HB ek.out;have s4:=aaJ ek.out q4;by_cases ab:k<n2
    ·obtain⟨x,aa⟩:∃ x,g[k]?=some x:=⟨_,aQ (by rw[vN.out];exact ab)⟩;obtain⟨b,o,c',t,hA,bA,ht,xx,g0,g1,g2,g3,g4,g5⟩:=mr (HG.out.keep cg HC.out) aa;simp only[Value.slice.injEq] at hA;obtain⟨rfl,-,rfl⟩:=hA;have HT:=jq (NE (f:=f1) aa);have HX:=jq (HK.out.sigs x (gQ aa));have oM:=jq ht;have jV:t.size<=1000:=by rw[<-bn,ht];exact HX.out.1
     clear aa ht xx;have bJ:(0:Int)<=(k:Int):=by omega
     have bI:(k:Int)<(n2:Int):=by omega
     have Nl:Hid (∀ n∈[x.key,x.alg,x.frm,x.til],0<=n/\n<=1000000000):=jq (λn hn=>by
      have h1:=HX.out.2;simp only[List.mem_cons,Qh,or_false] at hn;rcases hn with rfl | rfl | rfl | rfl <;> omega)
     obtain⟨w4,bY⟩:=acJ (wr.alloc (.cells #[.string t,.int .i64 x.key,.int .i64 x.alg,.int .i64 x.frm,.int .i64 x.til,.int .u64 x.sum] 50));have fl:w4.heap.size=wr.heap.size+1:=by rw[<-bY];simp
     have aC:Below wr.heap.size wr w4:=by rw[<-bY];exact (vQ _ _).alloc (bQ _) _
     have p0:w4.cell? ⟨wr.heap.size,0,none⟩=some (.string t):=by rw[<-bY];simp[go_sem]
     have p1:w4.cell? ⟨wr.heap.size,1,none⟩=some (.int .i64 x.key):=by rw[<-bY];simp[go_sem]
     have p2:w4.cell? ⟨wr.heap.size,2,none⟩=some (.int .i64 x.alg):=by rw[<-bY];simp[go_sem]
     have p3:w4.cell? ⟨wr.heap.size,3,none⟩=some (.int .i64 x.frm):=by rw[<-bY];simp[go_sem]
     have p4:w4.cell? ⟨wr.heap.size,4,none⟩=some (.int .i64 x.til):=by rw[<-bY];simp[go_sem]
     have p5:w4.cell? ⟨wr.heap.size,5,none⟩=some (.int .u64 x.sum):=by rw[<-bY];simp[go_sem]
     obtain⟨w5,aX⟩:=acJ (w4.alloc (.cells #[.int .i64 x.key,.int .i64 x.alg,.int .i64 x.frm,.int .i64 x.til] 3));have aH:Below w4.heap.size w4 w5:=by rw[<-aX];exact (vQ _ _).alloc (bQ _) _
     have qd:Below wr.heap.size wr w5:=aC.trans (aH.adZ);have Hl:Hid (lD Y r w5 (.slice (some ⟨wr.heap.size+1,0,none⟩) 4 4) [x.key,x.alg,x.frm,x.til]):=jq (by rw[<-aX,<-fl];exact lD.fresh Y r w4 _ [x.key,x.alg,x.frm,x.til] (by omega) (λk h=>by have:=(HL.out.row.2.2 k h).2;omega));have o5:=aaJ aH p5;have l3:Hid (∀ k,r=some k->k<wr.heap.size):=jq (λk h=>(HL.out.row.2.2 k h).2);have qM:=jq (HL.out.keep qd);have nu:Hid (go w5):=jq (HP.out.keepAt (HC.out.trans (qd.adZ)) Eu);have ik:=qd.size;have beQ:=aH.size;have qE:=jq qd;clear aC aH qd;go_wp2_with fail;clear bY aX p0 p1 p2 p3 p4 p5;refine (FF Y Y r _ t _ _ w5 qM.out Hl.out (λn hn=>by have:=Nl.out n hn;omega) (by have:=HA.out;omega) (by omega) (by simp) (by omega) nu.out (by omega)).mono ?_;rw[oM.out];rintro e w6 ⟨rfl,r6,Cm,zt⟩;have aW:Below Y w5 w6:=zt.below (bQ _) (λk h=>(qM.out.row.2.2 k h).1) (by omega);have mv:Hid ((Np.cJ (x.zone :: [x.key,x.alg,x.frm,x.til].map Np.bl)).length<=1900):=jq (D8 HX.out.1 (by simp) (λn hn=>(Nl.out n hn).2));have t5:=(zt.cell (k:=wr.heap.size) (by omega) (by omega) (λe=>by have:=l3.out _ e;omega) 5).trans o5;have G5:=jq Cm;have Ym:=jq (ek.out.trans ((qE.out.adZ).trans aW));have iy:=aW.size;have oK:Hid (go w6):=jq (nu.out.keepAt aW (by omega));clear Cm zt aW o5;go_wp2_with fail;refine (ON x.sum HX.out.2.2.2.2.2.1 HX.out.2.2.2.2.2.2 w6 oK.out).mono ?_;rintro e w7 ⟨rfl,dO⟩;have mR:=dO.size;have Dx:=jq (G5.out.keep dO);have Hv:=jq (oK.out.keep dO);have cD:=acZ Ym dO;have kj:Hid ((⟨(Np.bl x.sum).toArray⟩:ByteArray).size<=100):=jq (by rw[<-bn];have:=wv HX.out.2.2.2.2.2.2;simp;omega);clear dO t5;go_wp2_with fail;refine (FF Y Y r6 _ ⟨(Np.bl x.sum).toArray⟩ _ [] w7 Dx.out (lD.nil _ _ _) (λn hn=>by cases hn) (by have:=HA.out;have:=mv.out;rw[List.length_append];omega) (by have:=kj.out;omega) (by simp) (by omega) Hv.out (by omega)).mono ?_;rintro e w8 ⟨rfl,r8,PU,Qr⟩;have cL:Below Y w7 w8:=Qr.below (bQ _) (λk h=>(Dx.out.row.2.2 k h).1) (by omega);have n7:=cL.size;have H8:Hid (Bld 198 Y Y r8 (jd f1 (g.take (k+1))) w8/\Below Y wo w8):=jq ⟨by rw[HT.out];simpa using PU,cD.out.trans cL⟩;have yh:Hid ((jd f1 (g.take (k+1))).length<=202000+4000 * (k+1)):=jq (by
      rw[HT.out,List.length_append,List.length_append]
      have:=HA.out
      have:=mv.out
      have:=D8 (s:=Np.bl x.sum) (ns:=[]) (by have:=wv HX.out.2.2.2.2.2.2;omega) (by simp) (λn hn=>by cases hn)
      omega)
     clear PU Qr cL;go_wp2_with fail;go_roundw
     case rel=>exact⟨k+1,r8,by omega,by go_num,by omega,jq H8.out.1,jq H8.out.2,yh⟩
     case measure=>simp[intOf] <;> omega
    ·have f9:Hid (g.take k=g):=jq (kQ (by rw[vN.out];omega));rw[f9.out] at HL;go_wp2_with fail;refine (SC Y Y _ wr HL.out.read).mono ?_;rw[tJ.out];rintro e w9 ⟨rfl,_,jf⟩;have cR:=acZ HC jf;clear jf;go_wp2_with fail;go_ret;exact⟨rfl,cR.out⟩
theorem Oy:∀ args w,(callFunc 128 args).run prog w = .ok (.enter 128 args) w:=enters_of func128 (by kernel_rfl) rfl
theorem Xa:∀ args w,(callFunc 131 args).run prog w = .ok (.enter 131 args) w:=enters_of func131 (by kernel_rfl) rfl
theorem aUQ(B b:Nat)(r:Option Nat)(l:List UInt8)(s:ByteArray)(w:World)(h:Bld 198 B b r l w)(hl:l.length<=10000000)(hs:s.size<=100000)(iL:B<=w.heap.size) :
 Calls prog 128 #[.string s,.pointer (some ⟨b,0,none⟩)] w (zX 198 B b r (l++Np.cJ [s.data.toList]) (.tuple #[]) w):=by
 have H:=jq h;have cx:s.data.toList.length=s.size:=bn s;have kj:=jq cx;clear h cx;go_enter func128,ntmps128;go_wp2_with fail;refine (LP yP B b r _ s _ H.out (by omega) (by omega) iL).mono ?_;rintro e w1 ⟨rfl,r1,ay,bK⟩;have av:=jq ay;have fF:=jq bK;have uH:=bK.size;clear ay bK;go_wp2_with fail;refine (LO yP B b r1 _ 47 47 rfl _ av.out (by have:=kj.out;simp;omega) (by omega)).mono ?_;rintro e w2 ⟨rfl,r2,ac,dW⟩;have ai:=jq ac;have ki:=jq (fF.out.trans dW);clear ac dW;go_wp2_with fail;go_end0;exact⟨rfl,r2,by have:=ai.out;simpa [Np.cJ] using this,ki.out⟩
def TxK(Y Z E n:Nat)(l:List UInt8)(w:World):Prop:=l.length<=n/\Z<w.heap.size/\Y<Z/\(E<w.heap.size/\E≠Y)/\w.cell? ⟨Z,0,none⟩=some (.func (.func 128) #[] #[.pointer (some ⟨Y,0,none⟩)])/\∃ r,Bld 198 Y Y r l w/\r≠some Z/\r≠some E
theorem TxK.word{Y Z E n:Nat}{l:List UInt8}{w:World}(h:TxK Y Z E n l w):w.cell? ⟨Z,0,none⟩=some (.func (.func 128) #[] #[.pointer (some ⟨Y,0,none⟩)]):=h.2.2.2.2.1
theorem TxK.keep{Y Z E n:Nat}{l:List UInt8}{w w':World}(h:TxK Y Z E n l w)(hb:Below w.heap.size w w'):TxK Y Z E n l w':=by
 obtain⟨h1,h2,h3,h7,h4,r,h5,h6⟩:=h;exact⟨h1,lQ h2 hb.size,h3,⟨lQ h7.1 hb.size,h7.2⟩,(hb.cell (p:=⟨Z,0,none⟩) h2).trans h4,r,h5.keep hb,h6⟩
theorem TxK.more{Y Z E n m:Nat}{l:List UInt8}{w:World}(h:TxK Y Z E n l w)(hn:n<=m):TxK Y Z E m l w:=⟨yQ h.1 hn,h.2⟩
theorem TxK.fresh{Y Z E n:Nat}{l:List UInt8}{w w':World}(h:TxK Y Z E n l w)(hb:Below w.heap.size w w')(hz:w.heap.size<w'.heap.size):TxK Y Z w.heap.size n l w':=by
 obtain⟨h1,h2,h3,h7,h4,r,h5,h6,_⟩:=h;exact⟨h1,lQ h2 hb.size,h3,⟨hz,by omega⟩,(hb.cell (p:=⟨Z,0,none⟩) h2).trans h4,r,h5.keep hb,h6,λe=>by have:=(h5.row.2.2 _ e).2;omega⟩
theorem TxK.back{Y Z E n:Nat}{l:List UInt8}{w:World}(h:TxK Y Z E n l w):TxK Y Z Z n l w:=by
 obtain⟨h1,h2,h3,h7,h4,r,h5,h6,_⟩:=h;exact⟨h1,h2,h3,⟨h2,by omega⟩,h4,r,h5,h6,h6⟩
theorem TxK.step{Y Z E n m:Nat}{l l':List UInt8}{w w':World}(h:TxK Y Z E n l w)(hl:l'.length<=m){r:Option Nat}(hr:Bld 198 Y Y r l w)(hz:r≠some Z)(he:r≠some E){r':Option Nat}(hb:Bld 198 Y Y r' l' w')(hs:BS Y r w r' w'):TxK Y Z E m l' w'/\w'.heap[E]?=w.heap[E]?/\Below Y w w':=by
 obtain⟨h1,h2,h3,h7,h4,_⟩:=h;exact⟨⟨hl,lQ h2 hs.size,h3,⟨lQ h7.1 hs.size,h7.2⟩,(hs.cell h2 (by omega) hz 0).trans h4,r',hb,hs.free h2 hz,hs.free h7.1 he⟩,hs.keep E h7.1 h7.2 he,hs.below (bQ _) (λk hk=>(hr.row.2.2 k hk).1) (by have:=hr.row.2.1;omega)⟩
theorem Da(Y Z E n:Nat)(l:List UInt8)(s:ByteArray)(w:World)(h:TxK Y Z E n l w)(hn:n<=10000000)(hs:s.data.toList.length<=1000) :
 Calls prog 128 #[.string s,.pointer (some ⟨Y,0,none⟩)] w λe w'=>e = .returned (.tuple #[])/\TxK Y Z E (n+1001) (l++Np.cJ [s.data.toList]) w'/\w'.heap[E]?=w.heap[E]?/\Below Y w w':=by
 have h0:=h;obtain⟨h1,h2,h3,h7,h4,r,h5,h6,h8⟩:=h;refine (aUQ Y Y r l s w h5 (by omega) (by rw[<-bn];omega) (by omega)).mono λe w' ⟨he,r',hb',hs'⟩=>⟨he,h0.step (by rw[List.length_append,Np.yT,List.length_append,List.length_cons];simp only[Np.cJ,List.flatMap_nil,List.length_nil];omega) h5 h6 h8 hb' hs'⟩
theorem tq(Y Z E n:Nat)(l:List UInt8)(k:Int)(h0:0<=k)(h1:k<=9223372036854775807)(w:World)(h:TxK Y Z E n l w)(hn:n<=10000000)(hP:go w) :
 Calls prog 131 #[.int .i64 k,.pointer (some ⟨Z,0,none⟩)] w λe w'=>e = .returned (.tuple #[])/\TxK Y Z E (n+25) (l++Np.cJ [Np.bl k]) w'/\w'.heap[E]?=w.heap[E]?/\Below Y w w':=by
 have H:=jq h;have hz:Z<w.heap.size:=h.2.1;have hY:Y<w.heap.size:=Nat.lt_trans h.2.2.1 hz;have hE:Hid (E<w.heap.size):=jq h.2.2.2.1.1;have hc:w.cell? ⟨Z,0,none⟩=some (.func (.func 128) #[] #[.pointer (some ⟨Y,0,none⟩)]):=h.word;have JI:∀ g:bk w,g.w.cell? ⟨Z,0,none⟩=some (.func (.func 128) #[] #[.pointer (some ⟨Y,0,none⟩)]):=λg=>(g.cell ⟨Z,0,none⟩ hz).trans hc;have HI:Hid (∀ g:bk w,Calls prog 132 #[.int .i64 k] g.w λe w'=>e = .returned (aA (Np.bl k))/\Below g.w.heap.size g.w w'):=jq (λg=>Q4 k h0 h1 g.w (hP.keep g.below));have HD:Hid ((Np.bl k).length<=20):=jq (wv (by omega));have eg:=Oy;clear h hP;go_enter func131,ntmps131;go_wp2_with fail;refine Tc 3 (by kernel_rfl) (by kernel_rfl) ?_;simp only[List.take_succ_cons,List.take_zero,List.drop_succ_cons,List.drop_zero]
 repeat (go_big_quiet_step (fail))
 go_big_quiet_step ((go_at_call 132;exact Calls.grow_of (HI.out _)))
 repeat (go_big_quiet_step (fail))
 refine wpQuiet_nil ?_;rintro _ ⟨g,rfl⟩;have HG:=jq (H.out.keep g.below);have vG:=jq g.below;obtain⟨w1,ah⟩:=acJ g.w;rw[ah] at HG vG |-;clear JI ah hc;go_wp2_with fail;refine (Da Y Z E n l ⟨(Np.bl k).toArray⟩ w1 HG.out (by omega) (by have:=HD.out;simp;omega)).mono ?_;rintro e w2 ⟨rfl,ht,hx,hb⟩;have HT:Hid (TxK Y Z E (n+25) (l++Np.cJ [Np.bl k]) w2):=jq ⟨by have:=H.out.1;have:=HD.out;simp[Np.cJ];omega,by simpa using ht.2⟩;have HB:=jq ((vG.out.adZ).trans hb);have HX:=jq (hx.trans (vG.out.block E hE.out));clear ht hb hx;go_wp2_with fail;go_end0;exact⟨rfl,HT.out,HX.out,HB.out⟩
theorem Vt{f:List (List UInt8)}{d:List Np.Datum}{k:Nat}{x:Np.Datum}(hx:d[k]?=some x):jc f (d.take k)++Np.cJ [x.text]++Np.cJ [Np.bl x.n]++Np.cJ [Np.bl x.m]=jc f (d.take (k+1)):=by
 rw[ND hx];simp[Np.cJ]
theorem Vu{f:List (List UInt8)}{d:List Np.Sig}{k:Nat}{x:Np.Sig}(hx:d[k]?=some x):jd f (d.take k)++Np.cJ [x.zone]++Np.cJ [Np.bl x.key]++Np.cJ [Np.bl x.alg]++Np.cJ [Np.bl x.frm]++Np.cJ [Np.bl x.til]++Np.cJ [Np.bl x.sum]=jd f (d.take (k+1)):=by
 rw[NE hx];simp[Np.cJ]
theorem Kn(s:ByteArray)(ty life:Int)(dv sv:Value)(d:List Np.Datum)(g:List Np.Sig)(w:World)(hP:go w)(hK:KeyS ⟨⟨s.data.toList,ty,life,d⟩,g⟩)(hd:SlR bR 3 w w.heap.size dv d)(hg:SlR cS 6 w w.heap.size sv g) :
 Calls prog 59 #[.agg #[.string s,.int .i64 ty,.int .i64 life,dv,sv]] w λe w'=>e = .returned (aA (Np.dE ⟨⟨s.data.toList,ty,life,d⟩,g⟩))/\Below w.heap.size w w':=by
 have HK:=jq hK;have HD:=jq hd;have HG:=jq hg;have HP:=jq hP;have Eu:=hP.lt;have no:Hid (∀ f,f = [s.data.toList,Np.bl ty,Np.bl life,Np.bl d.length]->jd (f++d.flatMap Np.rg) g=Np.dE ⟨⟨s.data.toList,ty,life,d⟩,g⟩):=jq (λf hf=>by subst hf;unfold jd Np.dE Np.yV;rw[List.append_assoc]);have tH:Hid ([]++Np.cJ [s.data.toList]++Np.cJ [Np.bl ty]++Np.cJ [Np.bl life]++Np.cJ [Np.bl d.length]=jc [s.data.toList,Np.bl ty,Np.bl life,Np.bl d.length] []):=jq (by simp[jc,Np.cJ]);have ku:d.length<=100:=hK.few;have nR:g.length<=100:=hK.fewS;obtain⟨A1,c1,rfl,_,_⟩:=ak hd;obtain⟨A2,c2,rfl,_,_⟩:=ak hg;obtain⟨n1,bP⟩:=acJ d.length;obtain⟨n2,cr⟩:=acJ g.length;rw[bP] at HD no tH ku |-;rw[cr] at HG nR |-;have kL:=jq bP;have vN:=jq cr;clear bP cr hd hg hK hP;obtain⟨f0,lL⟩:∃ f0,[s.data.toList,Np.bl ty,Np.bl life,Np.bl n1]=f0:=⟨_,rfl⟩;have iY:=jq (no.out f0 lL.symm);rw[lL] at tH;clear lL no;obtain⟨X,hX⟩:=acJ w.heap.size;obtain⟨Y,hY⟩:=acJ (X+1);obtain⟨Z,hZ⟩:=acJ (Y+1);obtain⟨W0,dN⟩:=acJ (w.alloc (.cells #[.string s,.int .i64 ty,.int .i64 life,.slice A1 n1 c1,.slice A2 n2 c2] 42));have fk:W0.heap.size=Y:=by rw[<-dN,<-hY,<-hX];simp
 obtain⟨W1,am⟩:=acJ (W0.alloc (.cells #[.pointer none,.slice none 0 0] 198));have cP:Below X w W0:=by rw[<-dN];exact (vQ _ _).alloc (Nat.le_of_eq hX.symm) _
 have ay:Below Y W0 W1:=by rw[<-am];exact (vQ _ _).alloc (Nat.le_of_eq fk.symm) _
 have bd:W1.heap.size=Z:=by rw[<-am,<-hZ,<-fk];simp
 have Pd:Bld 198 Y Y none [] W1:=by rw[<-am,<-fk];exact Bld.fresh _ _
 obtain⟨W2,ud⟩:=acJ (W1.alloc (.cells #[.func (.func 128) #[] #[.pointer (some ⟨Y,0,none⟩)]] 204));have ac:Below Z W1 W2:=by rw[<-ud];exact (vQ _ _).alloc (Nat.le_of_eq bd.symm) _
 have aN:Z<W2.heap.size:=by rw[<-ud,<-bd];simp
 have zf:W2.cell? ⟨Z,0,none⟩=some (.func (.func 128) #[] #[.pointer (some ⟨Y,0,none⟩)]):=by rw[<-ud,<-bd];simp[go_sem]
 have jb:Hid (TxK Y Z Z 0 [] W2):=jq ⟨by simp,aN,by omega,⟨aN,by omega⟩,zf,none,Pd.keep (ac.adZ),by simp,by simp⟩;have ue:Below Y W0 W2:=ay.trans (ac.adZ);have k0:W2.cell? ⟨X,0,none⟩=some (.string s):=aaJ ue (by rw[<-dN,<-hX];simp[go_sem]);have k1:W2.cell? ⟨X,1,none⟩=some (.int .i64 ty):=aaJ ue (by rw[<-dN,<-hX];simp[go_sem]);have k2:W2.cell? ⟨X,2,none⟩=some (.int .i64 life):=aaJ ue (by rw[<-dN,<-hX];simp[go_sem]);have k3:W2.cell? ⟨X,3,none⟩=some (.slice A1 n1 c1):=aaJ ue (by rw[<-dN,<-hX];simp[go_sem]);have k4:W2.cell? ⟨X,4,none⟩=some (.slice A2 n2 c2):=aaJ ue (by rw[<-dN,<-hX];simp[go_sem]);have pM:Hid (go W2):=jq (HP.out.keepAt (cP.trans (ue.adZ)) (by omega));have ai:Hid (Below X w W2):=jq (cP.trans (ue.adZ));have aT:Hid (s.data.toList.length<=1000):=jq HK.out.name;have dF:Hid (0<=ty/\ty<=1000000000):=jq HK.out.type;have yw:Hid (0<=life/\life<=1000000000):=jq HK.out.life;have eg1:=Oy;have eg2:=Xa;have mN:1<Y:=by omega
 have hYX:X<Y:=by omega
 have hZY:Y<Z:=by omega
 clear cP ay ac ue Pd;rw[hX] at HD HG |-;go_enter func59,ntmps59;go_wp2_with fail;clear dN am ud hX fk bd hY hZ;refine (Da Y Z Z 0 [] s W2 jb.out (by omega) aT.out).mono ?_;rintro e W3 ⟨rfl,ht,hx,hb⟩;have pS:=jq ht;have ar:=acZ ai hb;have tN:=jq (pM.out.keepAt hb mN);replace zf:=ht.word;have eR:Z<W3.heap.size:=ht.2.1;replace k1:=aaJ hb k1;replace k2:=aaJ hb k2;replace k3:=aaJ hb k3;replace k4:=aaJ hb k4;clear ht hx hb k0;go_wp2_with fail;refine (tq Y Z Z _ _ ty dF.out.1 (by have:=dF.out.2;omega) W3 pS.out (by omega) tN.out).mono ?_;rintro e W4 ⟨rfl,ht,hx,hb⟩;have AS:=jq ht;have aU:=acZ ar hb;have lw:=jq (tN.out.keepAt hb mN);replace zf:=ht.word;have fl:Z<W4.heap.size:=ht.2.1;replace k2:=aaJ hb k2;replace k3:=aaJ hb k3;replace k4:=aaJ hb k4;clear ht hx hb k1;go_wp2_with fail;refine (tq Y Z Z _ _ life yw.out.1 (by have:=yw.out.2;omega) W4 AS.out (by omega) lw.out).mono ?_;rintro e W5 ⟨rfl,ht,hx,hb⟩;have AT:=jq ht;have bN:=acZ aU hb;have nu:=jq (lw.out.keepAt hb mN);replace zf:=ht.word;have ik:Z<W5.heap.size:=ht.2.1;replace k3:=aaJ hb k3;replace k4:=aaJ hb k4;clear ht hx hb k2;go_wp2_with fail;refine (tq Y Z Z _ _ (n1:Int) (by omega) (by omega) W5 AT.out (by omega) nu.out).mono ?_;rintro e W6 ⟨rfl,ht,hx,hb⟩;have Ij:=jq ht;have dl:=acZ bN hb;have oK:=jq (nu.out.keepAt hb mN);replace zf:=ht.word;have iy:Z<W6.heap.size:=ht.2.1;replace k3:=aaJ hb k3;replace k4:=aaJ hb k4;clear ht hx hb;go_wp2_with fail;have yJ:Hid (TxK Y Z Z 2000 (jc f0 []) W6):=jq (by have h:=Ij.out;rw[tH.out] at h;exact h.more (by omega));clear zf;go_loopw [37] (λi wr=>∃ k:Nat,k<=n1/\i = .int .i64 k/\Z<wr.heap.size/\Hid (TxK Y Z Z (2000 * (k+1)) (jc f0 (d.take k)) wr)/\Hid (Below Y W6 wr)) (λi _=>n1 - (intOf i).toNat)
 case atStart=>exact⟨0,jQ _,rfl,iy,by simpa using yJ,jq (vQ _ _)⟩
 case round=>
  obtain⟨k,hk,rfl,Ya,HT,bG⟩:=hrel;have HB:=acZ dl bG.out;have MW:=jq (oK.out.keepAt bG.out mN);have q3:=aaJ bG.out k3;have q4:=aaJ bG.out k4;clear k3 k4;by_cases ab:k<n1
  ·obtain⟨x,aa⟩:∃ x,d[k]?=some x:=⟨_,aQ (by rw[kL.out];exact ab)⟩;obtain⟨b,o,c',t,hA,bA,_,ht,xx,g0,g1,g2⟩:=D7 (HD.out.keep bV HB.out) aa;simp only[Value.slice.injEq] at hA;obtain⟨rfl,-,rfl⟩:=hA;have HX:=jq (HK.out.data x (gQ aa));have Hr:=jq (Vt (f:=f0) aa);have oM:=jq ht;have f9:Hid (t.data.toList.length<=1000):=jq (by rw[ht];exact HX.out.1);clear aa ht xx;have bJ:(0:Int)<=(k:Int):=by omega
   have bI:(k:Int)<(n1:Int):=by omega
   obtain⟨E,hE⟩:=acJ wr.heap.size;obtain⟨w2,aj⟩:=acJ (wr.alloc (.cells #[.string t,.int .i64 x.n,.int .i64 x.m] 128));have ac:Below wr.heap.size wr w2:=by rw[<-aj];exact (vQ _ _).alloc (bQ _) _
   have aN:wr.heap.size<w2.heap.size:=by rw[<-aj];simp
   have p0:w2.cell? ⟨E,0,none⟩=some (.string t):=by rw[<-aj,<-hE];simp[go_sem]
   have p1:w2.cell? ⟨E,1,none⟩=some (.int .i64 x.n):=by rw[<-aj,<-hE];simp[go_sem]
   have p2:w2.cell? ⟨E,2,none⟩=some (.int .i64 x.m):=by rw[<-aj,<-hE];simp[go_sem]
   have jb:Hid (TxK Y Z E (2000 * (k+1)) (jc f0 (d.take k)) w2):=jq (by rw[<-hE];exact HT.out.fresh ac aN);have ai:Hid (Below Y W6 w2):=acZ bG ac;have pM:=jq (MW.out.keep ac);have zf:=jb.out.word;have KG:Z<w2.heap.size:=by omega
   clear ac aN;go_wp2_with fail;clear aj q3 q4 hE;refine (Da Y Z E _ _ t w2 jb.out (by omega) f9.out).mono ?_;rintro e w3 ⟨rfl,ht,hx,hb⟩;have pS:=jq ht;have ar:=jq (ai.out.trans hb);have tN:=jq (pM.out.keepAt hb mN);replace zf:=ht.word;have eR:Z<w3.heap.size:=ht.2.1;replace p1:=(iQ (a:=⟨E,1,none⟩) hx).trans p1;replace p2:=(iQ (a:=⟨E,2,none⟩) hx).trans p2;clear ht hx hb p0 KG;go_wp2_with fail;refine (tq Y Z E _ _ x.n HX.out.2.1.1 (by have:=HX.out.2.1.2;omega) w3 pS.out (by omega) tN.out).mono ?_;rintro e w4 ⟨rfl,ht,hx,hb⟩;have AS:=jq ht;have aU:=jq (ar.out.trans hb);have lw:=jq (tN.out.keepAt hb mN);replace zf:=ht.word;have fl:Z<w4.heap.size:=ht.2.1;replace p2:=(iQ (a:=⟨E,2,none⟩) hx).trans p2;clear ht hx hb p1;go_wp2_with fail;refine (tq Y Z E _ _ x.m HX.out.2.2.1 (by have:=HX.out.2.2.2;omega) w4 AS.out (by omega) lw.out).mono ?_;rintro e w5 ⟨rfl,ht,hx,hb⟩;have AT:=jq ht;have bN:=jq (aU.out.trans hb);have nu:=jq (lw.out.keepAt hb mN);replace zf:=ht.word;have ik:Z<w5.heap.size:=ht.2.1;clear ht hx hb p2;go_wp2_with fail;go_roundw
   case rel=>exact⟨k+1,by omega,by go_num,ik,jq (by have h:=AT.out.back;rw[oM.out,Hr.out] at h;exact h.more (by omega)),bN⟩
   case measure=>simp[intOf] <;> omega
  ·have f9:Hid (d.take k=d):=jq (kQ (by rw[kL.out];omega));obtain⟨f1,o6⟩:=acJ (f0++d.flatMap Np.rg);have tJ:=jq iY.out;rw[o6] at tJ;have AW:Hid (TxK Y Z Z 202000 (jd f1 []) wr):=jq (by have h:=HT.out;rw[f9.out] at h;unfold jc at h;rw[o6] at h;have h2:=h.more (show 2000 * (k+1)<=202000 by omega);simpa [jd] using h2);clear o6 HT;go_wp2_with fail;clear ab hk;obtain⟨wo,rfl⟩:=acY wr;go_loopw [57] (λi wr=>∃ k:Nat,k<=n2/\i = .int .i64 k/\Z<wr.heap.size/\Hid (TxK Y Z Z (202000+4000 * k) (jd f1 (g.take k)) wr)/\Hid (Below Y wo wr)) (λi _=>n2 - (intOf i).toNat)
   case atStart=>exact⟨0,jQ _,rfl,Ya,by simpa using AW,jq (vQ _ _)⟩
   case round=>
    obtain⟨k,hk,rfl,hZs,HT,ek⟩:=hrel;have HC:=acZ HB ek.out;have UL:=jq (MW.out.keepAt ek.out mN);have s4:=aaJ ek.out q4;clear q3 q4;by_cases ab:k<n2
    ·obtain⟨x,aa⟩:∃ x,g[k]?=some x:=⟨_,aQ (by rw[vN.out];exact ab)⟩;obtain⟨b,o,c',t,hA,bA,ht,xx,g0,g1,g2,g3,g4,g5⟩:=mr (HG.out.keep cg HC.out) aa;simp only[Value.slice.injEq] at hA;obtain⟨rfl,-,rfl⟩:=hA;have HX:=jq (HK.out.sigs x (gQ aa));have Hr:=jq (Vu (f:=f1) aa);have oM:=jq ht;have f9:Hid (t.data.toList.length<=1000):=jq (by rw[ht];exact HX.out.1);clear aa ht xx;have bJ:(0:Int)<=(k:Int):=by omega
     have bI:(k:Int)<(n2:Int):=by omega
     obtain⟨E,hE⟩:=acJ wr.heap.size;obtain⟨w2,aj⟩:=acJ (wr.alloc (.cells #[.string t,.int .i64 x.key,.int .i64 x.alg,.int .i64 x.frm,.int .i64 x.til,.int .u64 x.sum] 50));have ac:Below wr.heap.size wr w2:=by rw[<-aj];exact (vQ _ _).alloc (bQ _) _
     have aN:wr.heap.size<w2.heap.size:=by rw[<-aj];simp
     have p0:w2.cell? ⟨E,0,none⟩=some (.string t):=by rw[<-aj,<-hE];simp[go_sem]
     have p1:w2.cell? ⟨E,1,none⟩=some (.int .i64 x.key):=by rw[<-aj,<-hE];simp[go_sem]
     have p2:w2.cell? ⟨E,2,none⟩=some (.int .i64 x.alg):=by rw[<-aj,<-hE];simp[go_sem]
     have p3:w2.cell? ⟨E,3,none⟩=some (.int .i64 x.frm):=by rw[<-aj,<-hE];simp[go_sem]
     have p4:w2.cell? ⟨E,4,none⟩=some (.int .i64 x.til):=by rw[<-aj,<-hE];simp[go_sem]
     have p5:w2.cell? ⟨E,5,none⟩=some (.int .u64 x.sum):=by rw[<-aj,<-hE];simp[go_sem]
     have jb:Hid (TxK Y Z E (202000+4000 * k) (jd f1 (g.take k)) w2):=jq (by rw[<-hE];exact HT.out.fresh ac aN);have ai:Hid (Below Y wo w2):=acZ ek ac;have pM:=jq (UL.out.keep ac);have zf:=jb.out.word;have KG:Z<w2.heap.size:=by omega
     clear ac aN;go_wp2_with fail;clear aj s4 hE;refine (Da Y Z E _ _ t w2 jb.out (by omega) f9.out).mono ?_;rintro e w3 ⟨rfl,ht,hx,hb⟩;have pS:=jq ht;have ar:=jq (ai.out.trans hb);have tN:=jq (pM.out.keepAt hb mN);replace zf:=ht.word;have eR:Z<w3.heap.size:=ht.2.1;replace p1:=(iQ (a:=⟨E,1,none⟩) hx).trans p1;replace p2:=(iQ (a:=⟨E,2,none⟩) hx).trans p2;replace p3:=(iQ (a:=⟨E,3,none⟩) hx).trans p3;replace p4:=(iQ (a:=⟨E,4,none⟩) hx).trans p4;replace p5:=(iQ (a:=⟨E,5,none⟩) hx).trans p5;clear ht hx hb p0 KG;go_wp2_with fail;refine (tq Y Z E _ _ x.key HX.out.2.1.1 (by have:=HX.out.2.1.2;omega) w3 pS.out (by omega) tN.out).mono ?_;rintro e w4 ⟨rfl,ht,hx,hb⟩;have AS:=jq ht;have aU:=jq (ar.out.trans hb);have lw:=jq (tN.out.keepAt hb mN);replace zf:=ht.word;have fl:Z<w4.heap.size:=ht.2.1;replace p2:=(iQ (a:=⟨E,2,none⟩) hx).trans p2;replace p3:=(iQ (a:=⟨E,3,none⟩) hx).trans p3;replace p4:=(iQ (a:=⟨E,4,none⟩) hx).trans p4;replace p5:=(iQ (a:=⟨E,5,none⟩) hx).trans p5;clear ht hx hb p1;go_wp2_with fail;refine (tq Y Z E _ _ x.alg HX.out.2.2.1.1 (by have:=HX.out.2.2.1.2;omega) w4 AS.out (by omega) lw.out).mono ?_;rintro e w5 ⟨rfl,ht,hx,hb⟩;have AT:=jq ht;have bN:=jq (aU.out.trans hb);have nu:=jq (lw.out.keepAt hb mN);replace zf:=ht.word;have ik:Z<w5.heap.size:=ht.2.1;replace p3:=(iQ (a:=⟨E,3,none⟩) hx).trans p3;replace p4:=(iQ (a:=⟨E,4,none⟩) hx).trans p4;replace p5:=(iQ (a:=⟨E,5,none⟩) hx).trans p5;clear ht hx hb p2;go_wp2_with fail;refine (tq Y Z E _ _ x.frm HX.out.2.2.2.1.1 (by have:=HX.out.2.2.2.1.2;omega) w5 AT.out (by omega) nu.out).mono ?_;rintro e w6 ⟨rfl,ht,hx,hb⟩;have Ij:=jq ht;have dl:=jq (bN.out.trans hb);have oK:=jq (nu.out.keepAt hb mN);replace zf:=ht.word;have iy:Z<w6.heap.size:=ht.2.1;replace p4:=(iQ (a:=⟨E,4,none⟩) hx).trans p4;replace p5:=(iQ (a:=⟨E,5,none⟩) hx).trans p5;clear ht hx hb p3;go_wp2_with fail;refine (tq Y Z E _ _ x.til HX.out.2.2.2.2.1.1 (by have:=HX.out.2.2.2.2.1.2;omega) w6 Ij.out (by omega) oK.out).mono ?_;rintro e w7 ⟨rfl,ht,hx,hb⟩;have yJ:=jq ht;have cD:=jq (dl.out.trans hb);have Hv:=jq (oK.out.keepAt hb mN);replace zf:=ht.word;have mR:Z<w7.heap.size:=ht.2.1;replace p5:=(iQ (a:=⟨E,5,none⟩) hx).trans p5;clear ht hx hb p4;have adQ:E<w7.heap.size:=yJ.out.2.2.2.1.1;have JI:∀ g:bk w7,g.w.cell? ⟨Z,0,none⟩=some (.func (.func 128) #[] #[.pointer (some ⟨Y,0,none⟩)]):=λg=>(g.cell ⟨Z,0,none⟩ mR).trans zf;have Yz:∀ g:bk w7,g.w.cell? ⟨E,5,none⟩=some (.int .u64 x.sum):=λg=>(g.cell ⟨E,5,none⟩ adQ).trans p5;have HI:Hid (∀ g:bk w7,Calls prog 133 #[.int .u64 x.sum,.int .i64 10] g.w λe w'=>e = .returned (aA (Np.bl x.sum))/\Below g.w.heap.size g.w w'):=jq (λg=>ON x.sum HX.out.2.2.2.2.2.1 HX.out.2.2.2.2.2.2 g.w (Hv.out.keep g.below));have kj:Hid ((Np.bl x.sum).length<=20):=jq (wv HX.out.2.2.2.2.2.2);go_wp2_with fail;refine Tc 4 (by kernel_rfl) (by kernel_rfl) ?_;simp only[List.take_succ_cons,List.take_zero,List.drop_succ_cons,List.drop_zero]
     repeat (go_big_quiet_step (fail))
     go_big_quiet_step ((go_at_call 133;exact Calls.grow_of (HI.out _)))
     repeat (go_big_quiet_step (fail))
     refine wpQuiet_nil ?_;rintro _ ⟨g,rfl⟩;have Nb:=jq (yJ.out.keep g.below);have eF:=jq (cD.out.trans (g.below.mono (show Y<=w7.heap.size by omega)));obtain⟨w8,eB⟩:=acJ g.w;rw[eB] at Nb eF |-;clear JI Yz eB p5 zf;go_wp2_with fail;refine (Da Y Z E _ _ ⟨(Np.bl x.sum).toArray⟩ w8 Nb.out (by omega) (by have:=kj.out;simp;omega)).mono ?_;rintro e w9 ⟨rfl,ht,hx,hb⟩;have U4:=jq ht.back;have cR:=jq (eF.out.trans hb);have qv:=ht.2.1;clear ht hx hb;go_wp2_with fail;go_roundw
     case rel=>exact⟨k+1,by omega,by go_num,qv,jq (by have h:=U4.out;rw[oM.out] at h;rw[<-Hr.out];exact TxK.more (by simpa using h) (by omega)),cR⟩
     case measure=>simp[intOf] <;> omega
    ·have U6:Hid (g.take k=g):=jq (kQ (by rw[vN.out];omega));obtain⟨-,-,-,-,-,r,bB,-,-⟩:=HT.out;rw[U6.out,tJ.out] at bB;have fY:=jq bB;clear bB;go_wp2_with fail;refine (SC Y Y _ wr fY.out.read).mono ?_;rintro e w9 ⟨rfl,_,jf⟩;have cR:=acZ HC jf;clear jf;go_wp2_with fail;go_ret;exact⟨rfl,cR.out⟩
end
end Go.Proofs.YtfnopgdcaanaiaaGreatDoor
