/- Parts of the proof. No condition. -/
import Derived.Test.YtbfbobfbgabjiaaGreatDoorP11
import Derived.Test.YtbfbobfbgabjiaaGreatDoorP12
import Derived.Test.YtbfbobfbgabjiaaGreatDoorP14
set_option linter.all false
set_option maxRecDepth 100000
set_option maxHeartbeats 8000000
namespace Go.Proofs.YtbfbobfbgabjiaaGreatDoor
open Go.Proofs.Tryz
section
open Go.RowKit
def cE(base:Nat)(w:World)(v:Value)(ps:List (List UInt8)):Prop:=w.ownsRow base 9 1 v ps.length (ps.map aA)
theorem cE.form{base:Nat}{w:World}{v:Value}{ps:List (List UInt8)}(h:cE base w v ps):∃ A c,v = .slice A ps.length c:=yZ h
theorem cE.alloc{base:Nat}{w:World}{v:Value}{ps:List (List UInt8)}(h:cE base w v ps)(o:Obj):cE base (w.alloc o) v ps:=World.ownsRow.alloc h o
theorem cE.keep{base:Nat}{w w':World}{v:Value}{ps:List (List UInt8)}(h:cE base w v ps)(hb:Below w.heap.size w w'):cE base w' v ps:=fU h (λg hg=>hb.block g (h.lt g hg).2)
theorem cE.slr{base:Nat}{w:World}{v:Value}{ps:List (List UInt8)}(h:cE base w v ps)(hl:ps.length<=140737488355328)(am:∀ x∈ps,x.length<=140737488355328):SlR RTx 1 w w.heap.size v ps:=by
 refine KJ (sz:=1) (e:=9) (base:=base) (λx=>[aA x]) (λ_ _=>rfl) ?_ hl (λx hx=>⟨⟨x.toArray⟩,by simp,am x hx,rfl⟩)
 have:w.ownsRow base 9 1 v ps.length (ps.map aA):=h
 simpa [Qt] using this
section
variable {ops:Array Oper} {rest:List Oper} {o:Oper} {a:Act} {Q:Exit->Act->World->Prop}
theorem zu(w:World)(iX:o.guard=none)(s x:Operand)(ho:o.op = .call { callee:=.builtin .append,args:=#[s,x],argTypes:=#[38,38] })
 (base:Nat) (v:Value) (ps:List (List UInt8)) (hs:a.eval s=v) (hown:cE base w v ps) (blk:Nat) (y:List UInt8) (hx:a.eval x = .slice (some ⟨blk,0,none⟩) 1 1) (hc:w.cell? ⟨blk,0,none⟩=some (aA y)) (hlen:ps.length<=100000) (ej:base<=w.heap.size)
 (h:∀ v' w',cE base w' v' (ps ++ [y])->Below base w w'->wpList prog ops Q rest (a.put o.dst v') w'):wpList prog ops Q (o::rest) a w:=by
 obtain⟨i0,hi,fS,bL,aM⟩:=info_parts Tryz.infoStr;refine wpList_append_own_at w iX s x 38 ho base 9 i0 (.string ⟨#[]⟩) 1 16 underlying38 hi fS bL aM rfl (by decide) v ps.length (ps.map aA) hs hown ⟨blk,0,none⟩ 1 1 [aA y] hx rfl ?_ (by simp[Value.oneCell']) (by unfold maxLen; omega) (by omega) ej ?_
 ·intro j u hj
  cases j with
  | zero=>simp at hj; subst hj; simpa [Addr.add] using hc
  | succ j=>simp at hj
 ·intro v' w' ho' hg _ _;refine h v' w' ?_ ((vQ _ _).grown hg ej (λk hk=>(hown.lt k hk).1));have e:(ps ++ [y]).length=ps.length+1:=by simp
  unfold cE;rw[e,List.map_append];exact ho'
end
theorem avX(a:ByteArray)(v:Value)(l:List Np.Signed)(bV:l.length<=20000)(w:World)(hd:SlR bC 5 w w.heap.size v l) :
 Calls prog 253 #[.agg #[.string a,v]] w (xw RTx 1 w (Np.cK a.data.toList l)):=by
 have HD:=jq hd;obtain⟨A,c,rfl,aV,bi⟩:=ah hd;clear hd;have mo:Hid (∀ k,(Np.cK a.data.toList (l.take k)).length<=20000):=jq (λk=>by
  unfold Np.cK;rw[List.length_map];exact yQ (List.length_filter_le _ _) (by rw[List.length_take]; omega))
 have HW:Hid (∀ o,Below w.heap.size w (w.alloc o)):=jq (λo=>(vQ _ w).alloc (bQ _) _);have vj:Hid (∀ x∈Np.cK a.data.toList l,x.length<=140737488355328):=jq (λx hx=>by
  unfold Np.cK at hx;obtain⟨y,hy,rfl⟩:=List.mem_map.1 hx;obtain⟨j,hj,rfl⟩:=nQ.1 (List.mem_filter.1 hy).1;obtain⟨_,_,_,s,_,_,_,_,_,hs,hz,_⟩:=eE HD.out (aQ hj);rw[<-hs,aT]; exact hz)
 go_enter func253,ntmps253;go_wp2_with fail;obtain⟨w1,ak⟩:∃ w1,w.alloc (.cells #[.string a,.slice A l.length c] 56)=w1:=⟨_,rfl⟩;have c0:w1.cell? ⟨w.heap.size,0,none⟩=some (.string a):=by rw[<-ak]; simp[go_sem]
 have c1:w1.cell? ⟨w.heap.size,1,none⟩=some (.slice A l.length c):=by rw[<-ak]; simp[go_sem]
 have bL:w1.heap.size=w.heap.size+1:=by rw[<-ak]; simp
 have ay:Hid (Below w.heap.size w w1):=jq (by rw[<-ak]; exact HW.out _);rw[ak];clear ak;go_loopw [3,4] (λvo i wr=>∃ (k:Nat),k<=l.length/\i = .int .i64 k/\Hid (Below w1.heap.size w1 wr)/\Hid (cE w1.heap.size wr vo (Np.cK a.data.toList (l.take k)))) (λ_ i _=>l.length - (intOf i).toNat)
 case atStart=>exact⟨0,jQ _,rfl,jq (vQ _ _),jq ⟨by simp,.inl ⟨rfl,rfl⟩⟩⟩
 case round=>
  obtain⟨k,hk,rfl,HB,HO⟩:=hrel;have am:=HB.out.size;have d0:wr.cell? ⟨w.heap.size,0,none⟩=some (.string a):=(HB.out.cell (by dsimp only; omega)).trans c0;have d1:wr.cell? ⟨w.heap.size,1,none⟩=some (.slice A l.length c):=(HB.out.cell (by dsimp only; omega)).trans c1;have aw:=jq (ay.out.trans (HB.out.mono (by omega)));have dz:w.heap.size<wr.heap.size:=by omega
  by_cases aa:k<l.length
  ·obtain⟨x,ac⟩:∃ x,l[k]?=some x:=⟨_,aQ aa⟩;obtain⟨b,o,c',sn,dv,sv,hA,bS,_,av,cA,aL,ax,f0,f1,f2,f3,f4⟩:=eE (HD.out.keep aN aw.out) ac
   cases hA
   obtain⟨Ad,cd,rfl,_,_⟩:=ah aL;have HT:Hid (Np.cK a.data.toList (l.take (k+1))=if x.set.type=2/\x.set.name≠a.data.toList then Np.cK a.data.toList (l.take k) ++ [x.set.name] else Np.cK a.data.toList (l.take k)):=jq (by
    obtain⟨hl,he⟩:=cQ.1 ac;rw[fQ hl,Np.Wg,he])
   have aH:=jq av;have bH:(0:Int)<=(k:Int):=by omega
   have bG:(k:Int)<(l.length:Int):=by omega
   have ap:b<wr.heap.size:=by omega
   have aY:Hid (∀ o,Below w1.heap.size w1 (wr.alloc o)):=jq (λo=>HB.out.alloc HB.out.size _);have n7:=jq (mo.out k);clear ac av aL ax f4;by_cases h2:x.set.type=2
   ·have ab:(x.set.type == 2)=true:=by simpa using h2
    by_cases hn:x.set.name=a.data.toList
    ·have jp:(!sn.toList == a.toList)=false:=by rw[dQ,dQ,aH.out,hn]; simp
     have k9:=jq (HT.out.trans (Qc λh=>h.2 hn));clear h2 hn;go_wp2_with fail;go_roundw
     case rel=>exact⟨k+1,by omega,by go_num,jq (aY.out _),jq (by rw[k9.out]; exact HO.out.alloc _)⟩
     case measure=>simp[intOf] <;> omega
    ·have jp:(!sn.toList == a.toList)=true:=by rw[dQ,dQ,aH.out]; simpa using hn
     have k9:=jq (HT.out.trans (Qb ⟨h2,hn⟩));clear h2 hn;go_wp2_with (at_builtin; refine zu _ rfl _ _ rfl w1.heap.size _ (Np.cK a.data.toList (l.take k)) rfl ((HO.out.alloc _).alloc _) (wr.heap.size+1) sn.data.toList (by simp[go_sem]) (by simp[go_sem]) (by have:=n7.out; omega) (by simp; omega) ?_; intro v5 w5 kE aF; have H5:=jq (And.intro kE aF); clear kE aF);go_roundw
     case rel=>exact⟨k+1,by omega,by go_num,jq (((aY.out _).alloc (by simp; omega) _).trans H5.out.2),jq (by rw[k9.out,<-aH.out]; exact H5.out.1)⟩
     case measure=>simp[intOf] <;> omega
   ·have ab:(x.set.type == 2)=false:=by simpa using h2
    have k9:=jq (HT.out.trans (Qc λh=>h2 h.1));clear h2;go_wp2_with fail;go_roundw
    case rel=>exact⟨k+1,by omega,by go_num,jq (aY.out _),jq (by rw[k9.out]; exact HO.out.alloc _)⟩
    case measure=>simp[intOf] <;> omega
  ·have HE:Hid (l.take k=l):=jq (kQ (by omega));go_wp2_with fail;go_ret;refine⟨_,rfl,?_,aw.out⟩;have h1:=HO.out;have h2:=mo.out k;rw[HE.out] at h1 h2;exact h1.slr (by omega) vj.out
theorem ajJ{x:List UInt8}(h:Np.aD x=true):x≠[]:=by
 rintro rfl;revert h;decide
def U0(w1:World)(apex:List UInt8)(l:List Np.Signed)(i:Value)(wr:World):Prop:=
 ∃ k:Nat,k<=l.length/\i = .int .i64 k/\Below w1.heap.size w1 wr/\Hid (∀ j x,j<k->l[j]?=some x->Np.dX x.set=true)/\Hid (Np.jU apex none l=Np.jU apex (pW l k) (l.drop k))
theorem axJ(a:ByteArray)(ha:a.size<=140737488355328)(v:Value)(l:List Np.Signed)(bV:l.length<=20000)(w:World)(hd:SlR bC 5 w w.heap.size v l) :
 Calls prog 112 #[.agg #[.string a,v]] w λe w'=>e = .returned (.bool (Np.eN ⟨a.data.toList,l⟩))/\Below w.heap.size w w':=by
 have HD:=jq hd;obtain⟨A,c,rfl,aV,bi,-⟩:=hd;have HW:Hid (∀ o,Below w.heap.size w (w.alloc o)):=jq (λo=>(vQ _ w).alloc (bQ _) _);go_enter func112,ntmps112;go_wp2_with fail;refine (zf _ ha _).mono ?_;rintro e w1 ⟨rfl,hb⟩;have c0:w1.cell? ⟨w.heap.size,0,none⟩=some (.string a):=by rw[hb.cell (by simp)]; go_simp
 have c1:w1.cell? ⟨w.heap.size,1,none⟩=some (.slice A l.length c):=by rw[hb.cell (by simp)]; go_simp
 have ep:w.heap.size<w1.heap.size:=by have:=hb.size; simp at this; omega
 have ay:=jq ((HW.out _).trans (hb.mono (by simp)));clear hb
 cases qM:Np.aD a.data.toList with
 | false=>
  have HF:Hid (Np.eN ⟨a.data.toList,l⟩=false):=jq (by unfold Np.eN; rw[qM]; rfl);clear qM;go_wp2_with fail;go_ret;exact⟨ae HF.out.symm,ay.out⟩
 | true=>
  have od:=jq qM;have haz:=yY qM;clear qM;go_wp2_with fail;refine (Q5 a od.out _).mono ?_;rintro e w0 ⟨rfl,cV⟩;have JT:=cV.size;replace c0:w0.cell? ⟨w.heap.size,0,none⟩=some (.string a):=(cV.cell (by simpa using ep)).trans c0;replace c1:w0.cell? ⟨w.heap.size,1,none⟩=some (.slice A l.length c):=(cV.cell (by simpa using ep)).trans c1;replace ay:=jq (ay.out.trans (cV.mono (by omega)));replace ep:w.heap.size<w0.heap.size:=by omega
  clear cV JT;obtain⟨w1,rfl⟩:∃ w1,w1=w0:=⟨_,rfl⟩
  cases jy:Np.eK a.data.toList with
  | true=>
   have HF:Hid (Np.eN ⟨a.data.toList,l⟩=false):=jq (by unfold Np.eN; rw[jy]; simp);go_wp2_with (go_at_call 178; refine (Fp a ha _).mono ?_; rintro e w' ⟨rfl,rfl⟩);go_ret;exact⟨ae HF.out.symm,ay.out⟩
  | false=>
   have HF:Hid (Np.eN ⟨a.data.toList,l⟩=Np.jU a.data.toList none l):=jq (by unfold Np.eN; rw[jy,od.out]; simp);go_wp2_with (go_at_call 178; refine (Fp a ha _).mono ?_; rintro e w' ⟨rfl,rfl⟩);clear jy;go_loopw [3] (λi wr=>U0 w1 a.data.toList l i wr) (λi _=>l.length - (intOf i).toNat)
   case atStart=>exact⟨0,jQ _,rfl,vQ _ _,jq (λj x hj=>by omega),jq rfl⟩
   case round=>
    obtain⟨k,hk,rfl,aG,HV,HG⟩:=hrel;have ZR:=aG.size;have d0:wr.cell? ⟨w.heap.size,0,none⟩=some (.string a):=by rw[aG.cell (by simpa using ep)]; exact c0
    have d1:wr.cell? ⟨w.heap.size,1,none⟩=some (.slice A l.length c):=by rw[aG.cell (by simpa using ep)]; exact c1
    have dz:w.heap.size<wr.heap.size:=by omega
    by_cases aa:k<l.length
    ·have lV:Below w.heap.size w wr:=ay.out.trans (aG.mono (by omega));have ac:=aQ aa;obtain⟨b,o,c',sn,dv,sv,hA,bS,_,av,am,aL,ax,e0,e1,e2,e3,e4⟩:=eE (HD.out.keep aN lV) ac
     cases hA
     generalize hx:l[k]=x at *;clear hx;obtain⟨Ad,cd,rfl,Jg,Y0⟩:=ah aL;have iA:=jq aL;have HX:=jq ac;have ue:(⟨sn.data.toList,x.set.type,x.set.life,x.set.data⟩:Np.DSet)=x.set:=by rw[av]
     have Mv:=jq ue;have aH:=jq av;have aB:=jq aG;have xC:=jq lV;have rk:=jq (HG.out.trans (R9 ac (pW l k)));clear aL ax ac av aG lV c0 c1 ue e4;go_wp2_with fail;have mD:Below wr.heap.size wr (wr.alloc (.cells #[.string sn,.int .i64 x.set.type,.int .i64 x.set.life,.slice Ad x.set.data.length cd] 26)):=(vQ _ _).alloc (bQ _) _;have p0:=World.cell?_alloc_new wr #[.string sn,.int .i64 x.set.type,.int .i64 x.set.life,.slice Ad x.set.data.length cd] 26 0;have p1:=World.cell?_alloc_new wr #[.string sn,.int .i64 x.set.type,.int .i64 x.set.life,.slice Ad x.set.data.length cd] 26 1;have p2:=World.cell?_alloc_new wr #[.string sn,.int .i64 x.set.type,.int .i64 x.set.life,.slice Ad x.set.data.length cd] 26 2;have p3:=World.cell?_alloc_new wr #[.string sn,.int .i64 x.set.type,.int .i64 x.set.life,.slice Ad x.set.data.length cd] 26 3;have lB:wr.heap.size<(wr.alloc (.cells #[.string sn,.int .i64 x.set.type,.int .i64 x.set.life,.slice Ad x.set.data.length cd] 26)).heap.size:=by simp
     generalize wr.alloc (.cells #[.string sn,.int .i64 x.set.type,.int .i64 x.set.life,.slice Ad x.set.data.length cd] 26)=wa at mD p0 p1 p2 p3 lB |-;have cH:=jq mD;have uF:=jq (xC.out.trans (mD.mono (by omega)));replace d0:wa.cell? ⟨w.heap.size,0,none⟩=some (.string a):=by rw[mD.cell (by simpa using dz)]; exact d0
     replace d1:wa.cell? ⟨w.heap.size,1,none⟩=some (.slice (some ⟨b,o,none⟩) l.length c):=by rw[mD.cell (by simpa using dz)]; exact d1
     replace p0:wa.cell? ⟨wr.heap.size,0,none⟩=some (.string sn):=p0;replace p1:wa.cell? ⟨wr.heap.size,1,none⟩=some (.int .i64 x.set.type):=p1;replace p2:wa.cell? ⟨wr.heap.size,2,none⟩=some (.int .i64 x.set.life):=p2;replace p3:wa.cell? ⟨wr.heap.size,3,none⟩=some (.slice Ad x.set.data.length cd):=p3;have nD:∀ (g:bF wa) (p:Addr),p.block<wa.heap.size->g.w.cell? p=wa.cell? p:=λg p h=>g.cell p h;have a6K:w.heap.size<wa.heap.size:=by omega
     have aWX:b<wa.heap.size:=by omega
     have S8:=jq ((iA.out.keep cB (cH.out.mono (by omega))).more cZ (show w.heap.size<=wa.heap.size by omega));clear mD e0 e1 e2 e3;have bT:∀ g:bF wa,Calls prog 111 #[.agg #[.string sn,.int .i64 x.set.type,.int .i64 x.set.life,.slice Ad x.set.data.length cd]] g.w λe w'=>e = .returned (.bool (Np.dX x.set))/\Below g.w.heap.size g.w w':=λg=>by
      rw[<-Mv.out];exact Q3 sn am _ _ _ x.set.data _ (S8.out.later cB cZ g.below)
     cases ft:Np.dX x.set with
     | false=>
      rw[ft] at bT;have jH:=jq bT;have ga:=jq ft;clear bT ft;refine fe (by kernel_rfl) (by kernel_rfl) ?_
      repeat (go_big_quiet_step ((go_at_call 111; exact Calls.grow_of (jH.out _))))
      refine wpQuiet_nil ?_;rintro _ ⟨g,rfl⟩;go_wp2_with fail;go_ret;refine⟨ae ?_,uF.out.trans (g.below.mono (by omega))⟩;rw[HF.out,rk.out,ga.out,Bool.and_false]; rfl
     | true=>
      rw[ft] at bT;have jH:=jq bT;have ga:=jq ft;have lA:Np.aD sn.data.toList=true:=by rw[aH.out]; exact (Np.zq ft).1
      have gZ:=jq lA;have ZE:=yY lA;have hin:∀ g:bF wa,Calls prog 181 #[.string sn,.string a] g.w λe w'=>e = .returned (.bool (Np.bp sn.data.toList a.data.toList))/\Below g.w.heap.size g.w w':=λg=>by
       rw[<-Np.Cs (ajJ od.out)];exact Fn sn a (by omega) (by omega) _
      have Bt:∀ j y,j<k+1->l[j]?=some y->Np.dX y.set=true:=λj y hj hy=>by
       by_cases e:j=k
       ·subst e; rw[HX.out] at hy; cases hy; exact ft
       ·exact HV.out j y (by omega) hy
      have pZ:=jq Bt;clear bT ft lA Bt
      cases fH:Np.bp sn.data.toList a.data.toList with
      | false=>
       rw[fH] at hin;have mq:=jq hin;have AD:=jq fH;clear fH hin;refine fe (by kernel_rfl) (by kernel_rfl) ?_
       repeat (go_big_quiet_step (first
        | (go_at_call 111; exact Calls.grow_of (jH.out _))
        | (go_at_call 181; exact Calls.grow_of (mq.out _))))
       refine wpQuiet_nil ?_;rintro _ ⟨g,rfl⟩;go_wp2_with fail;go_ret;refine⟨ae ?_,uF.out.trans (g.below.mono (by omega))⟩;rw[HF.out,rk.out,<-aH.out,gZ.out,AD.out]; rfl
      | true=>
       rw[fH] at hin;have mq:=jq hin;have Cf:Np.jU a.data.toList none l=((match pW l k with | none=>true | some q=>decide (Np.gK q x.set<0))&&Np.jU a.data.toList (pW l (k+1)) (l.drop (k+1))):=by
        rw[rk.out,<-aH.out,gZ.out,fH,ga.out,FQ HX.out]; rfl
       have cI:=jq Cf;clear fH hin Cf;by_cases bH:k=0
       ·subst bH;refine fe (by kernel_rfl) (by kernel_rfl) ?_
        repeat (go_big_quiet_step (first
         | (go_at_call 111; exact Calls.grow_of (jH.out _))
         | (go_at_call 181; exact Calls.grow_of (mq.out _))))
        refine wpQuiet_nil ?_;rintro _ ⟨g,rfl⟩;go_wp2_with fail;go_roundw
        case rel=>exact⟨1,by omega,by go_num,aB.out.trans ((cH.out.trans (g.below.mono (by omega))).mono aB.out.size),pZ,jq (by rw[cI.out]; rfl)⟩
        case measure=>simp[intOf] <;> omega
       ·obtain⟨i,rfl⟩:∃ i,k=i+1:=⟨k - 1,by omega⟩;have rS:=aQ (show i<l.length by omega);obtain⟨b',o',c'',sq,dq,sg,pq,vR,_,jx,Px,BE,_,f0,f1,f2,f3,_⟩:=eE ((HD.out.keep aN uF.out)) rS
        cases pq
        generalize hy:l[i]=y at *;clear hy;obtain⟨Aq,cq,rfl,Yo,Ey⟩:=ah BE;have Pt:(⟨sq.data.toList,y.set.type,y.set.life,y.set.data⟩:Np.DSet)=y.set:=by rw[jx]
        have PJ:Np.aD sq.data.toList=true:=by rw[jx]; exact (Np.zq (HV.out i y (by omega) rS)).1
        have Pj:pW l (i+1)=some y.set:=FQ rS;have u7:=jq Pj;have Pf:∀ g:bF wa,Calls prog 182 #[.agg #[.string sq,.int .i64 y.set.type,.int .i64 y.set.life,.slice Aq y.set.data.length cq],.agg #[.string sn,.int .i64 x.set.type,.int .i64 x.set.life,.slice Ad x.set.data.length cd]] g.w λe w'=>e = .returned (.int .i64 (Np.gK y.set x.set))/\Below g.w.heap.size g.w w':=λg=>by
         have:=axY sq sn y.set.type y.set.life x.set.type x.set.life (.slice Aq y.set.data.length cq) (.slice Ad x.set.data.length cd) y.set.data x.set.data PJ gZ.out g.w
         rw[Pt,Mv.out] at this;exact this
        have Mc:=jq Pf;clear Pt Pj BE jx rS Pf PJ;have qE:(0:Int)<=(i:Int):=by omega
        have rU:(i:Int)<(l.length:Int):=by omega
        have Zh:(0:Int)<(((i+1:Nat)):Int):=by omega
        have ak:IntKind.i64.wrap (((i+1:Nat):Int) - 1)=(i:Int):=by rw[IntWalk.i64_in _ (by omega)]; omega
        by_cases fN:Np.gK y.set x.set<0
        ·have kW:=jq (uQ fN);have Jh:¬ (0<=Np.gK y.set x.set):=by omega
         refine fe (by kernel_rfl) (by kernel_rfl) ?_
         repeat (go_big_quiet_step (first
          | (go_at_call 111; exact Calls.grow_of (jH.out _))
          | (go_at_call 181; exact Calls.grow_of (mq.out _))
          | (go_at_call 182; exact Calls.grow_of (Mc.out _))))
         refine wpQuiet_nil ?_;rintro _ ⟨g,rfl⟩;go_wp2_with fail;go_roundw
         case rel=>
          refine⟨i+1+1,by omega,by go_num,aB.out.trans ((cH.out.trans (g.below.mono (by omega))).mono aB.out.size),pZ,jq ?_⟩;rw[cI.out,u7.out];simp only[kW.out,Bool.true_and]
         case measure=>simp[intOf] <;> omega
        ·have kW:=jq (tQ fN);have Jh:0<=Np.gK y.set x.set:=by omega
         refine fe (by kernel_rfl) (by kernel_rfl) ?_
         repeat (go_big_quiet_step (first
          | (go_at_call 111; exact Calls.grow_of (jH.out _))
          | (go_at_call 181; exact Calls.grow_of (mq.out _))
          | (go_at_call 182; exact Calls.grow_of (Mc.out _))))
         refine wpQuiet_nil ?_;rintro _ ⟨g,rfl⟩;go_wp2_with fail;go_ret;refine⟨ae ?_,uF.out.trans (g.below.mono (by omega))⟩;rw[HF.out,cI.out,u7.out];simp only[kW.out,Bool.false_and]
    ·go_wp2_with fail;go_ret;refine⟨ae ?_,ay.out.trans (aG.mono (by omega))⟩;rw[HF.out,HG.out,List.drop_eq_nil_of_le (by omega)];rfl
theorem li.fresh(b:Nat)(r:Option Nat)(W:World)(T:TypeId)(ns:List Int)(hb:b<W.heap.size)(hr:∀ k,r=some k->k<W.heap.size):li b r (W.alloc (.cells (ns.map (Value.int .i64)).toArray T)) (.slice (some ⟨W.heap.size,0,none⟩) ns.length ns.length) ns:=by
 refine⟨_,_,rfl,bQ _,λi x hx=>⟨W.heap.size,0,rfl,by simp,by omega,λe=>by have:=hr _ e; omega,?_⟩⟩;rw[World.cell?_alloc_new];simp[hx]
structure KeyS(s:Np.Signed):Prop where
 name:s.set.name.length<=1000
 type:0<=s.set.type/\s.set.type<=1000000000
 life:0<=s.set.life/\s.set.life<=1000000000
 few:s.set.data.length<=100
 data:∀ d∈s.set.data,d.text.length<=1000/\(0<=d.n/\d.n<=1000000000)/\0<=d.m/\d.m<=1000000000
 fewS:s.sigs.length<=100
 sigs:∀ g∈s.sigs,g.zone.length<=1000/\(0<=g.key/\g.key<=1000000000)/\(0<=g.alg/\g.alg<=1000000000)/\(0<=g.frm/\g.frm<=1000000000)/\(0<=g.til/\g.til<=1000000000)/\0<=g.sum/\g.sum<18446744073709551616
def nf(f:List (List UInt8))(d:List Np.Datum):List UInt8:=Np.gt (f++d.flatMap Np.tu)
def ng(f:List (List UInt8))(g:List Np.Sig):List UInt8:=Np.gt (f++g.flatMap Np.sJ)
theorem U7{f:List (List UInt8)}{d:List Np.Datum}{k:Nat}{x:Np.Datum}(hx:d[k]?=some x):nf f (d.take (k+1))=nf f (d.take k)++Np.gt (x.text :: [x.n,x.m].map Np.cM):=by
 obtain⟨hl,he⟩:=cQ.1 hx;rw[fQ hl,he];unfold nf;rw[List.flatMap_append,<-List.append_assoc,Wn];rfl
theorem U8{f:List (List UInt8)}{d:List Np.Sig}{k:Nat}{x:Np.Sig}(hx:d[k]?=some x):ng f (d.take (k+1))=ng f (d.take k)++Np.gt (x.zone :: [x.key,x.alg,x.frm,x.til].map Np.cM)++Np.gt (Np.cM x.sum::([]:List Int).map Np.cM):=by
 obtain⟨hl,he⟩:=cQ.1 hx;rw[fQ hl,he];unfold ng;simp[Np.gt,Np.sJ]
theorem DL{s:List UInt8}{ns:List Int}(hs:s.length<=1000)(hn:ns.length<=4)(h:∀ n∈ns,n<=1000000000):(Np.gt (s::ns.map Np.cM)).length<=1900:=by
 have:=QT ns s (λn hm=>by have:=h n hm; omega)
 rw[KB] at this;omega
theorem aJK(s:ByteArray)(ty life:Int)(dv sv:Value)(d:List Np.Datum)(g:List Np.Sig)(w:World)(hP:iC w)(hK:KeyS ⟨⟨s.data.toList,ty,life,d⟩,g⟩)(hd:SlR cr 3 w w.heap.size dv d)(hg:SlR fj 6 w w.heap.size sv g) :
 Calls prog 65 #[.agg #[.string s,.int .i64 ty,.int .i64 life,dv,sv]] w λe w'=>e = .returned (aA (Np.jC ⟨⟨s.data.toList,ty,life,d⟩,g⟩))/\Below w.heap.size w w':=by
 have HK:=jq hK;have HD:=jq hd;have HG:=jq hg;have HP:=jq hP;have IT:=hP.lt;have GN:Hid (∀ f,f = [s.data.toList,Np.cM ty,Np.cM life,Np.cM d.length]->ng (f++d.flatMap Np.tu) g=Np.jC ⟨⟨s.data.toList,ty,life,d⟩,g⟩):=jq (λf hf=>by subst hf; unfold ng Np.jC Np.Ba; rw[List.append_assoc]);have C0:Hid (Np.gt (s.data.toList :: [ty,life,(d.length:Int)].map Np.cM)=nf [s.data.toList,Np.cM ty,Np.cM life,Np.cM d.length] []):=jq (by simp[nf]);have am:s.size<=1000:=by have:=hK.name; rw[<-aT]; exact this
 have Jk:d.length<=100:=hK.few;have Jt:g.length<=100:=hK.fewS;obtain⟨A1,c1,rfl,_,_⟩:=ah hd;obtain⟨A2,c2,rfl,_,_⟩:=ah hg;obtain⟨n1,aO⟩:∃ n,d.length=n:=⟨_,rfl⟩;obtain⟨n2,be⟩:∃ n,g.length=n:=⟨_,rfl⟩;rw[aO] at HD GN C0 Jk |-;rw[be] at HG Jt |-;have fB:=jq aO;have iB:=jq be;clear aO be hd hg hK hP;obtain⟨f0,nC⟩:∃ f0,[s.data.toList,Np.cM ty,Np.cM life,Np.cM n1]=f0:=⟨_,rfl⟩;have pa:=jq (GN.out f0 nC.symm);rw[nC] at C0;clear nC GN;obtain⟨X,hX⟩:∃ X,w.heap.size=X:=⟨_,rfl⟩;obtain⟨Y,hY⟩:∃ Y,X+1=Y:=⟨_,rfl⟩;obtain⟨W0,dE⟩:∃ W0,w.alloc (.cells #[.string s,.int .i64 ty,.int .i64 life,.slice A1 n1 c1,.slice A2 n2 c2] 68)=W0:=⟨_,rfl⟩;have fS:W0.heap.size=Y:=by rw[<-dE,<-hY,<-hX]; simp
 obtain⟨W1,ai⟩:∃ W1,W0.alloc (.cells #[.pointer none,.slice none 0 0] 171)=W1:=⟨_,rfl⟩;have cV:Below X w W0:=by rw[<-dE]; exact (vQ _ _).alloc (Nat.le_of_eq hX.symm) _
 have ap:Below Y W0 W1:=by rw[<-ai]; exact (vQ _ _).alloc (Nat.le_of_eq fS.symm) _
 have bL:W1.heap.size=Y+1:=by rw[<-ai,<-fS]; simp
 have Sr:Hid (Bld 171 Y Y none [] W1):=jq (by rw[<-ai,<-fS]; exact Bld.fresh _ _);have k0:W1.cell? ⟨X,0,none⟩=some (.string s):=(cl ap (by omega)).trans (by rw[<-dE,<-hX]; simp[go_sem]);have k1:W1.cell? ⟨X,1,none⟩=some (.int .i64 ty):=(cl ap (by omega)).trans (by rw[<-dE,<-hX]; simp[go_sem]);have k2:W1.cell? ⟨X,2,none⟩=some (.int .i64 life):=(cl ap (by omega)).trans (by rw[<-dE,<-hX]; simp[go_sem]);have k3:W1.cell? ⟨X,3,none⟩=some (.slice A1 n1 c1):=(cl ap (by omega)).trans (by rw[<-dE,<-hX]; simp[go_sem]);have k4:W1.cell? ⟨X,4,none⟩=some (.slice A2 n2 c2):=(cl ap (by omega)).trans (by rw[<-dE,<-hX]; simp[go_sem]);obtain⟨W2,IV⟩:∃ W2,W1.alloc (.cells #[.int .i64 ty,.int .i64 life,.int .i64 (n1:Int)] 3)=W2:=⟨_,rfl⟩;have ab:Below W1.heap.size W1 W2:=by rw[<-IV]; exact (vQ _ _).alloc (bQ _) _
 have T0:Hid (li Y none W2 (.slice (some ⟨Y+1,0,none⟩) 3 3) [ty,life,(n1:Int)]):=jq (by rw[<-IV,<-bL]; exact li.fresh Y none W1 _ [ty,life,(n1:Int)] (by omega) (λk h=>by cases h));have aB:Hid (Below Y W0 W2):=jq (ap.trans (ab.mono (by omega)));have aw:=jq cV;have jF:=jq ab;have I0:X<W1.heap.size:=by omega
 have XJ:Y<W1.heap.size:=by omega
 clear cV ap ab;rw[hX] at HD HG IT |-;go_enter func65,ntmps65;go_wp2_with fail;have aM:Y+1<=W2.heap.size:=by have:=jF.out.size; omega
 have j3:=(cl jF.out (by omega)).trans k3;have j4:=(cl jF.out (by omega)).trans k4;have Af:Hid (iC W2):=jq (HP.out.keepAt (aw.out.trans (aB.out.mono (by omega))) (by omega));clear k0 k1 k2 k3 k4 dE ai IV hX I0 XJ;have AB:Hid (∀ n∈[ty,life,(n1:Int)],0<=n/\n<=1000000000):=jq (λn hn=>by
  have h1:=HK.out.type;have h2:=HK.out.life;dsimp only at h1 h2;simp only[List.mem_cons,Qh,or_false] at hn;rcases hn with rfl | rfl | rfl <;> omega)
 refine (Fj Y Y none [] s _ _ W2 (Sr.out.keep jF.out) T0.out (λn hn=>by have:=AB.out n hn; omega) (by simp) (by omega) (by simp) (by omega) Af.out (by omega)).mono ?_;rintro e w3 ⟨rfl,r3,nF,dC⟩;rw[C0.out] at nF;have ag:Below Y W2 w3:=dC.below (bQ _) (λk h=>by cases h) (by omega);have zY:Hid (Bld 171 Y Y r3 (nf f0 []) w3):=jq (by simpa using nF);have er:=ag.size;have i3:=(cl ag (by omega)).trans j3;have i4:=(cl ag (by omega)).trans j4;have ar:Hid (Below X w w3):=jq (aw.out.trans ((aB.out.trans ag).mono (by omega)));have oV:Hid ((nf f0 []).length<=2000):=jq (by
  rw[<-C0.out]
  have:=DL (s:=s.data.toList) (ns:=[ty,life,(n1:Int)]) HK.out.name (by simp) (λn hn=>(AB.out n hn).2)
  omega)
 clear nF dC ag j3 j4;go_wp2_with fail;go_loopw [30] (λi wr=>∃ (k:Nat) (r:Option Nat),k<=n1/\i = .int .i64 k/\Y+1<=wr.heap.size/\Hid (Bld 171 Y Y r (nf f0 (d.take k)) wr)/\Hid (Below Y w3 wr)/\Hid ((nf f0 (d.take k)).length<=2000 * (k+1))) (λi _=>n1 - (intOf i).toNat)
 case atStart=>exact⟨0,r3,jQ _,rfl,by omega,by simpa using zY,jq (vQ _ _),by simpa using oV⟩
 case round=>
  obtain⟨k,r,hk,rfl,Oj,HL,bO,HA⟩:=hrel;have HB:=jq (ar.out.trans (bO.out.mono (by omega)));have q3:=(cl bO.out (by omega)).trans i3;have q4:=(cl bO.out (by omega)).trans i4;by_cases aa:k<n1
  ·obtain⟨x,ac⟩:∃ x,d[k]?=some x:=⟨_,aQ (by rw[fB.out]; exact aa)⟩;obtain⟨b,o,c',t,hA,bS,_,ht,Ck,g0,g1,g2⟩:=Iu (HD.out.keep cB HB.out) ac;simp only[Value.slice.injEq] at hA;obtain⟨rfl,-,rfl⟩:=hA;have HT:=jq (U7 (f:=f0) ac);have HX:=jq (HK.out.data x (gQ ac));have AC:=jq ht;have ui:t.size<=1000:=by rw[<-aT,ht]; exact HX.out.1
   clear ac ht Ck;have bH:(0:Int)<=(k:Int):=by omega
   have bG:(k:Int)<(n1:Int):=by omega
   obtain⟨w4,bE⟩:∃ w4,wr.alloc (.cells #[.string t,.int .i64 x.n,.int .i64 x.m] 96)=w4:=⟨_,rfl⟩;have gC:w4.heap.size=wr.heap.size+1:=by rw[<-bE]; simp
   have an:Below wr.heap.size wr w4:=by rw[<-bE]; exact (vQ _ _).alloc (bQ _) _
   have p0:w4.cell? ⟨wr.heap.size,0,none⟩=some (.string t):=by rw[<-bE]; simp[go_sem]
   have p1:w4.cell? ⟨wr.heap.size,1,none⟩=some (.int .i64 x.n):=by rw[<-bE]; simp[go_sem]
   have p2:w4.cell? ⟨wr.heap.size,2,none⟩=some (.int .i64 x.m):=by rw[<-bE]; simp[go_sem]
   obtain⟨w5,aP⟩:∃ w5,w4.alloc (.cells #[.int .i64 x.n,.int .i64 x.m] 3)=w5:=⟨_,rfl⟩;have aF:Below w4.heap.size w4 w5:=by rw[<-aP]; exact (vQ _ _).alloc (bQ _) _
   have px:Below wr.heap.size wr w5:=an.trans (aF.mono (by omega));have G5:Hid (li Y r w5 (.slice (some ⟨wr.heap.size+1,0,none⟩) 2 2) [x.n,x.m]):=jq (by rw[<-aP,<-gC]; exact li.fresh Y r w4 _ [x.n,x.m] (by omega) (λk h=>by have:=(HL.out.row.2.2 k h).2; omega));have s5:=jq (HL.out.keep px);have xT:Hid (iC w5):=jq (HP.out.keepAt (HB.out.trans (px.mono (by omega))) IT);have me:=px.size;have xy:=jq px;clear an aF px;go_wp2_with fail;clear bE aP p0 p1 p2;refine (Fj Y Y r _ t _ _ w5 s5.out G5.out (λn hn=>by
    have h1:=HX.out.2;simp only[List.mem_cons,Qh,or_false] at hn;rcases hn with rfl | rfl <;> omega) (by have:=HA.out; omega) (by omega) (by simp) (by omega) xT.out (by omega)).mono ?_
   rw[AC.out,<-HT.out];rintro e w6 ⟨rfl,r6,BU,yL⟩;have aU:Below Y w5 w6:=yL.below (bQ _) (λk h=>(s5.out.row.2.2 k h).1) (by omega);have H6:=jq (And.intro BU (bO.out.trans ((xy.out.mono (by omega)).trans aU)));have il:=aU.size;have gW:Hid ((nf f0 (d.take (k+1))).length<=2000 * (k+1+1)):=jq (by
    rw[HT.out,List.length_append]
    have:=HA.out
    have:=DL (s:=x.text) (ns:=[x.n,x.m]) HX.out.1 (by simp) (λn hn=>by
     have h1:=HX.out.2;simp only[List.mem_cons,Qh,or_false] at hn;rcases hn with rfl | rfl <;> omega)
    omega)
   clear BU yL aU;go_wp2_with fail;go_roundw
   case rel=>exact⟨k+1,r6,by omega,by go_num,by omega,jq H6.out.1,jq H6.out.2,gW⟩
   case measure=>simp[intOf] <;> omega
  ·have gY:Hid (d.take k=d):=jq (kQ (by rw[fB.out]; omega));have pY:Hid ((nf f0 d).length<=202000):=jq (by have:=HA.out; rw[gY.out] at this; omega);rw[gY.out] at HL;go_wp2_with fail;clear aa hk;obtain⟨wo,rfl⟩:∃ wo,wo=wr:=⟨_,rfl⟩;obtain⟨f1,tJ⟩:∃ f1,f0++d.flatMap Np.tu=f1:=⟨_,rfl⟩;have mX:=jq pa.out;rw[tJ] at mX;have TN:Hid (Bld 171 Y Y r (ng f1 []) wo):=jq (by have:=HL.out; unfold nf at this; rw[tJ] at this; simpa [ng] using this);have HAS:Hid ((ng f1 []).length<=202000):=jq (by have:=pY.out; unfold nf at this; rw[tJ] at this; simpa [ng] using this);clear tJ;go_loopw [47] (λi wr=>∃ (k:Nat) (r:Option Nat),k<=n2/\i = .int .i64 k/\Y+1<=wr.heap.size/\Hid (Bld 171 Y Y r (ng f1 (g.take k)) wr)/\Hid (Below Y wo wr)/\Hid ((ng f1 (g.take k)).length<=202000+4000 * k)) (λi _=>n2 - (intOf i).toNat)
   case atStart=>exact⟨0,r,jQ _,rfl,by omega,by simpa using TN,jq (vQ _ _),by simpa using HAS⟩
   case round=>
    obtain⟨k,r,hk,rfl,Oj,HL,rc,HA⟩:=hrel;have HC:=jq (HB.out.trans (rc.out.mono (by omega)));have s4:=(cl rc.out (by omega)).trans q4;by_cases aa:k<n2
    ·obtain⟨x,ac⟩:∃ x,g[k]?=some x:=⟨_,aQ (by rw[iB.out]; exact aa)⟩;obtain⟨b,o,c',t,hA,bS,ht,Ck,g0,g1,g2,g3,g4,g5⟩:=sK (HG.out.keep el HC.out) ac;simp only[Value.slice.injEq] at hA;obtain⟨rfl,-,rfl⟩:=hA;have HT:=jq (U8 (f:=f1) ac);have HX:=jq (HK.out.sigs x (gQ ac));have AC:=jq ht;have ui:t.size<=1000:=by rw[<-aT,ht]; exact HX.out.1
     clear ac ht Ck;have bH:(0:Int)<=(k:Int):=by omega
     have bG:(k:Int)<(n2:Int):=by omega
     have MH:Hid (∀ n∈[x.key,x.alg,x.frm,x.til],0<=n/\n<=1000000000):=jq (λn hn=>by
      have h1:=HX.out.2;simp only[List.mem_cons,Qh,or_false] at hn;rcases hn with rfl | rfl | rfl | rfl <;> omega)
     obtain⟨w4,bE⟩:∃ w4,wr.alloc (.cells #[.string t,.int .i64 x.key,.int .i64 x.alg,.int .i64 x.frm,.int .i64 x.til,.int .u64 x.sum] 133)=w4:=⟨_,rfl⟩;have gC:w4.heap.size=wr.heap.size+1:=by rw[<-bE]; simp
     have an:Below wr.heap.size wr w4:=by rw[<-bE]; exact (vQ _ _).alloc (bQ _) _
     have p0:w4.cell? ⟨wr.heap.size,0,none⟩=some (.string t):=by rw[<-bE]; simp[go_sem]
     have p1:w4.cell? ⟨wr.heap.size,1,none⟩=some (.int .i64 x.key):=by rw[<-bE]; simp[go_sem]
     have p2:w4.cell? ⟨wr.heap.size,2,none⟩=some (.int .i64 x.alg):=by rw[<-bE]; simp[go_sem]
     have p3:w4.cell? ⟨wr.heap.size,3,none⟩=some (.int .i64 x.frm):=by rw[<-bE]; simp[go_sem]
     have p4:w4.cell? ⟨wr.heap.size,4,none⟩=some (.int .i64 x.til):=by rw[<-bE]; simp[go_sem]
     have p5:w4.cell? ⟨wr.heap.size,5,none⟩=some (.int .u64 x.sum):=by rw[<-bE]; simp[go_sem]
     obtain⟨w5,aP⟩:∃ w5,w4.alloc (.cells #[.int .i64 x.key,.int .i64 x.alg,.int .i64 x.frm,.int .i64 x.til] 3)=w5:=⟨_,rfl⟩;have aF:Below w4.heap.size w4 w5:=by rw[<-aP]; exact (vQ _ _).alloc (bQ _) _
     have px:Below wr.heap.size wr w5:=an.trans (aF.mono (by omega));have G5:Hid (li Y r w5 (.slice (some ⟨wr.heap.size+1,0,none⟩) 4 4) [x.key,x.alg,x.frm,x.til]):=jq (by rw[<-aP,<-gC]; exact li.fresh Y r w4 _ [x.key,x.alg,x.frm,x.til] (by omega) (λk h=>by have:=(HL.out.row.2.2 k h).2; omega));have o5:=(cl aF (by omega)).trans p5;have mY:Hid (∀ k,r=some k->k<wr.heap.size):=jq (λk h=>(HL.out.row.2.2 k h).2);have s5:=jq (HL.out.keep px);have xT:Hid (iC w5):=jq (HP.out.keepAt (HC.out.trans (px.mono (by omega))) IT);have me:=px.size;have Kc:=aF.size;have xy:=jq px;clear an aF px;go_wp2_with fail;clear bE aP p0 p1 p2 p3 p4 p5;refine (Fj Y Y r _ t _ _ w5 s5.out G5.out (λn hn=>by have:=MH.out n hn; omega) (by have:=HA.out; omega) (by omega) (by simp) (by omega) xT.out (by omega)).mono ?_;rw[AC.out];rintro e w6 ⟨rfl,r6,BU,yL⟩;have aU:Below Y w5 w6:=yL.below (bQ _) (λk h=>(s5.out.row.2.2 k h).1) (by omega);have xE:Hid ((Np.gt (x.zone :: [x.key,x.alg,x.frm,x.til].map Np.cM)).length<=1900):=jq (DL HX.out.1 (by simp) (λn hn=>(MH.out n hn).2));have t5:=(yL.cell (k:=wr.heap.size) (by omega) (by omega) (λe=>by have:=mY.out _ e; omega) 5).trans o5;have TK:=jq BU;have XU:=jq (rc.out.trans ((xy.out.mono (by omega)).trans aU));have il:=aU.size;have Me:Hid (iC w6):=jq (xT.out.keepAt aU (by omega));clear BU yL aU o5;go_wp2_with fail;refine (W6 x.sum HX.out.2.2.2.2.2.1 HX.out.2.2.2.2.2.2 w6 Me.out).mono ?_;rintro e w7 ⟨rfl,dY⟩;have mL:=dY.size;have s6:=jq (TK.out.keep dY);have Ub:=jq (Me.out.keep dY);have dJ:=jq (XU.out.trans (dY.mono (by omega)));have vj:Hid ((⟨(Np.cM x.sum).toArray⟩:ByteArray).size<=100):=jq (by rw[<-aT]; have:=AX HX.out.2.2.2.2.2.2; simp; omega);clear dY t5;go_wp2_with fail;refine (Fj Y Y r6 _ ⟨(Np.cM x.sum).toArray⟩ _ [] w7 s6.out (li.nil _ _ _) (λn hn=>by cases hn) (by have:=HA.out; have:=xE.out; rw[List.length_append]; omega) (by have:=vj.out; omega) (by simp) (by omega) Ub.out (by omega)).mono ?_;rintro e w8 ⟨rfl,r8,OX,Pr⟩;have jY:Below Y w7 w8:=Pr.below (bQ _) (λk h=>(s6.out.row.2.2 k h).1) (by omega);have sC:=jY.size;have H8:Hid (Bld 171 Y Y r8 (ng f1 (g.take (k+1))) w8/\Below Y wo w8):=jq ⟨by rw[HT.out]; simpa using OX,dJ.out.trans jY⟩;have zC:Hid ((ng f1 (g.take (k+1))).length<=202000+4000 * (k+1)):=jq (by
      rw[HT.out,List.length_append,List.length_append]
      have:=HA.out
      have:=xE.out
      have:=DL (s:=Np.cM x.sum) (ns:=[]) (by have:=AX HX.out.2.2.2.2.2.2; omega) (by simp) (λn hn=>by cases hn)
      omega)
     clear OX Pr jY;go_wp2_with fail;go_roundw
     case rel=>exact⟨k+1,r8,by omega,by go_num,by omega,jq H8.out.1,jq H8.out.2,zC⟩
     case measure=>simp[intOf] <;> omega
    ·have gY:Hid (g.take k=g):=jq (kQ (by rw[iB.out]; omega));rw[gY.out] at HL;go_wp2_with fail;refine (aIQ Y Y _ wr HL.out.read).mono ?_;rw[mX.out];rintro e w9 ⟨rfl,_,dO⟩;have du:=jq (HC.out.trans (dO.mono (by omega)));clear dO;go_wp2_with fail;go_ret;exact⟨rfl,du.out⟩
end
end Go.Proofs.YtbfbobfbgabjiaaGreatDoor
