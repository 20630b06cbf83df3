/- Parts of the proof. No condition. -/
import Derived.Test.YtfnopgdcaanaiaaGreatDoorK08
import Derived.Test.YtfnopgdcaanaiaaGreatDoorK10
import Derived.Test.YtfnopgdcaanaiaaGreatDoorK11
set_option linter.all false
set_option maxRecDepth 100000
set_option maxHeartbeats 8000000
namespace Go.Proofs.YtfnopgdcaanaiaaGreatDoor
open Go.Proofs.Tryz
section
open Go.RowKit
def ck(base:Nat)(w:World)(v:Value)(ps:List (List UInt8)):Prop:=w.ownsRow base 9 1 v ps.length (ps.map aD)
theorem ck.form{base:Nat}{w:World}{v:Value}{ps:List (List UInt8)}(h:ck base w v ps):∃ A c,v = .slice A ps.length c:=yS h
theorem ck.alloc{base:Nat}{w:World}{v:Value}{ps:List (List UInt8)}(h:ck base w v ps)(o:Obj):ck base (w.alloc o) v ps:=World.ownsRow.alloc h o
theorem ck.keep{base:Nat}{w w':World}{v:Value}{ps:List (List UInt8)}(h:ck base w v ps)(hb:Below w.heap.size w w'):ck base w' v ps:=gp h (λg hg=>hb.block g (h.lt g hg).2)
theorem ck.slr{base:Nat}{w:World}{v:Value}{ps:List (List UInt8)}(h:ck base w v ps)(hl:ps.length<=140737488355328)(ap:∀ x∈ps,x.length<=140737488355328):SlR RTx 1 w w.heap.size v ps:=by
 refine JV (sz:=1) (e:=9) (base:=base) (λx=>[aD x]) (λ_ _=>rfl) ?_ hl (λx hx=>⟨⟨x.toArray⟩,by simp,ap x hx,rfl⟩)
 have:w.ownsRow base 9 1 v ps.length (ps.map aD):=h
 simpa [PR] using this
section
variable {ops:Array Oper} {rest:List Oper} {o:Oper} {a:Act} {Q:Exit->Act->World->Prop}
theorem zj(w:World)(iA:o.guard=none)(s x:Operand)(ho:o.op = .call { callee:=.builtin .append,args:=#[s,x],argTypes:=#[116,116] })
 (base:Nat) (v:Value) (ps:List (List UInt8)) (hs:a.eval s=v) (hown:ck base w v ps) (blk:Nat) (y:List UInt8) (hx:a.eval x = .slice (some ⟨blk,0,none⟩) 1 1) (hc:w.cell? ⟨blk,0,none⟩=some (aD y)) (hlen:ps.length<=100000) (dV:base<=w.heap.size)
 (h:∀ v' w',ck base w' v' (ps ++ [y])->Below base w w'->wpList prog ops Q rest (a.put o.dst v') w'):wpList prog ops Q (o::rest) a w:=by
 obtain⟨i0,hi,dZ,bh,aM⟩:=info_parts Tryz.infoStr;refine wpList_append_own_at w iA s x 116 ho base 9 i0 (.string ⟨#[]⟩) 1 16 underlying116 hi dZ bh aM rfl (by decide) v ps.length (ps.map aD) hs hown ⟨blk,0,none⟩ 1 1 [aD y] hx rfl ?_ (by simp[Value.oneCell']) (by unfold maxLen;omega) (by omega) dV ?_
 ·intro j u hj
  cases j with
  | zero=>simp at hj;subst hj;simpa [Addr.add] using hc
  | succ j=>simp at hj
 ·intro v' w' ho' hg _ _;refine h v' w' ?_ ((vQ _ _).grown hg dV (λk hk=>(hown.lt k hk).1));have e:(ps ++ [y]).length=ps.length+1:=by simp
  unfold ck;rw[e,List.map_append];exact ho'
end
theorem apZ(a:ByteArray)(v:Value)(l:List Np.Signed)(bM:l.length<=20000)(w:World)(hd:SlR bk 5 w w.heap.size v l) :
 Calls prog 349 #[.agg #[.string a,v]] w (xk RTx 1 w (Np.ct a.data.toList l)):=by
 have HD:=jq hd;obtain⟨A,c,rfl,bD,bL⟩:=al hd;clear hd;have lK:Hid (∀ k,(Np.ct a.data.toList (l.take k)).length<=20000):=jq (λk=>by
  unfold Np.ct;rw[List.length_map];exact yQ (List.length_filter_le _ _) (by rw[List.length_take];omega))
 have HW:Hid (∀ o,Below w.heap.size w (w.alloc o)):=jq (λo=>(vQ _ w).alloc (bQ _) _);have ji:Hid (∀ x∈Np.ct a.data.toList l,x.length<=140737488355328):=jq (λx hx=>by
  unfold Np.ct at hx;obtain⟨y,hy,rfl⟩:=List.mem_map.1 hx;obtain⟨j,hj,rfl⟩:=nQ.1 (List.mem_filter.1 hy).1;obtain⟨_,_,_,s,_,_,_,_,_,hs,hz,_⟩:=eV HD.out (aQ hj);rw[<-hs,aZ];exact hz)
 go_enter func349,ntmps349;go_wp2_with fail;obtain⟨w1,aj⟩:∃ w1,w.alloc (.cells #[.string a,.slice A l.length c] 44)=w1:=⟨_,rfl⟩;have c0:w1.cell? ⟨w.heap.size,0,none⟩=some (.string a):=by rw[<-aj];simp[go_sem]
 have c1:w1.cell? ⟨w.heap.size,1,none⟩=some (.slice A l.length c):=by rw[<-aj];simp[go_sem]
 have bh:w1.heap.size=w.heap.size+1:=by rw[<-aj];simp
 have ay:Hid (Below w.heap.size w w1):=jq (by rw[<-aj];exact HW.out _);rw[aj];clear aj;go_loopw [3,4] (λvo i wr=>∃ (k:Nat),k<=l.length/\i = .int .i64 k/\Hid (Below w1.heap.size w1 wr)/\Hid (ck w1.heap.size wr vo (Np.ct a.data.toList (l.take k)))) (λ_ i _=>l.length - (intOf i).toNat)
 case atStart=>exact⟨0,jQ _,rfl,jq (vQ _ _),jq ⟨by simp,.inl ⟨rfl,rfl⟩⟩⟩
 case round=>
  obtain⟨k,hk,rfl,HB,HO⟩:=hrel;have ap:=HB.out.size;have d0:wr.cell? ⟨w.heap.size,0,none⟩=some (.string a):=(HB.out.cell (by dsimp only;omega)).trans c0;have d1:wr.cell? ⟨w.heap.size,1,none⟩=some (.slice A l.length c):=(HB.out.cell (by dsimp only;omega)).trans c1;have aB:=jq (ay.out.trans (HB.out.mono (by omega)));have cK:w.heap.size<wr.heap.size:=by omega
  by_cases aa:k<l.length
  ·obtain⟨x,ab⟩:∃ x,l[k]?=some x:=⟨_,aQ aa⟩;obtain⟨b,o,c',sn,dv,sv,hA,bU,_,aF,cx,aV,aR,f0,f1,f2,f3,f4⟩:=eV (HD.out.keep ba aB.out) ab
   cases hA
   obtain⟨Ad,cd,rfl,_,_⟩:=al aV;have HT:Hid (Np.ct a.data.toList (l.take (k+1))=if x.set.type=2/\x.set.name≠a.data.toList then Np.ct a.data.toList (l.take k) ++ [x.set.name] else Np.ct a.data.toList (l.take k)):=jq (by
    obtain⟨hl,he⟩:=cQ.1 ab;rw[fQ hl,Np.VK,he])
   have aS:=jq aF;have bX:(0:Int)<=(k:Int):=by omega
   have bW:(k:Int)<(l.length:Int):=by omega
   have aw:b<wr.heap.size:=by omega
   have bg:Hid (∀ o,Below w1.heap.size w1 (wr.alloc o)):=jq (λo=>HB.out.alloc HB.out.size _);have jK:=jq (lK.out k);clear ab aF aV aR f4;by_cases h2:x.set.type=2
   ·have ac:(x.set.type == 2)=true:=by simpa using h2
    by_cases hn:x.set.name=a.data.toList
    ·have iS:(!sn.toList == a.toList)=false:=by rw[dQ,dQ,aS.out,hn];simp
     have kw:=jq (HT.out.trans (Qc λh=>h.2 hn));clear h2 hn;go_wp2_with fail;go_roundw
     case rel=>exact⟨k+1,by omega,by go_num,jq (bg.out _),jq (by rw[kw.out];exact HO.out.alloc _)⟩
     case measure=>simp[intOf] <;> omega
    ·have iS:(!sn.toList == a.toList)=true:=by rw[dQ,dQ,aS.out];simpa using hn
     have kw:=jq (HT.out.trans (Qb ⟨h2,hn⟩));clear h2 hn;go_wp2_with (at_builtin;refine zj _ rfl _ _ rfl w1.heap.size _ (Np.ct a.data.toList (l.take k)) rfl ((HO.out.alloc _).alloc _) (wr.heap.size+1) sn.data.toList (by simp[go_sem]) (by simp[go_sem]) (by have:=jK.out;omega) (by simp;omega) ?_;intro v5 w5 dp aC;have H5:=jq (And.intro dp aC);clear dp aC);go_roundw
     case rel=>exact⟨k+1,by omega,by go_num,jq (((bg.out _).alloc (by simp;omega) _).trans H5.out.2),jq (by rw[kw.out,<-aS.out];exact H5.out.1)⟩
     case measure=>simp[intOf] <;> omega
   ·have ac:(x.set.type == 2)=false:=by simpa using h2
    have kw:=jq (HT.out.trans (Qc λh=>h2 h.1));clear h2;go_wp2_with fail;go_roundw
    case rel=>exact⟨k+1,by omega,by go_num,jq (bg.out _),jq (by rw[kw.out];exact HO.out.alloc _)⟩
    case measure=>simp[intOf] <;> omega
  ·have HE:Hid (l.take k=l):=jq (kQ (by omega));go_wp2_with fail;go_ret;refine⟨_,rfl,?_,aB.out⟩;have h1:=HO.out;have h2:=lK.out k;rw[HE.out] at h1 h2;exact h1.slr (by omega) ji.out
theorem Oe(l:List (List UInt8)):∀ k,(Np.dM (l.take k)).length<=k:=by
 intro k;have key:∀ (r o:List (List UInt8)),(r.foldl Np.nU o).length<=o.length+r.length:=by
  intro r
  induction r with
  | nil=>intro o;simp
  | cons c r ih=>
   intro o;have h1:(Np.nU o c).length<=o.length+1:=by
    unfold Np.nU
    cases o.getLast? with
    | none=>simp
    | some q=>dsimp only;split <;> simp
   have:=ih (Np.nU o c)
   rw[List.foldl_cons,List.length_cons];omega
 have:=key (l.take k) []
 rw[List.length_take] at this;unfold Np.dM;simp at this;omega
theorem IN(l:List (List UInt8)):∀ x∈Np.dM l,x∈l:=by
 have key:∀ (r o:List (List UInt8)),∀ x∈r.foldl Np.nU o,x∈o\/x∈r:=by
  intro r
  induction r with
  | nil=>intro o x hx;exact .inl hx
  | cons c r ih=>
   intro o x hx;rcases ih _ x hx with h | h
   ·unfold Np.nU at h
    cases hg:o.getLast? with
    | none=>rw[hg] at h;simp at h;exact .inr (by simp[h])
    | some q=>
     rw[hg] at h;dsimp only at h;split at h
     ·exact .inl h
     ·rcases List.mem_append.1 h with h | h
      ·exact .inl h
      ·simp at h;exact .inr (by simp[h])
   ·exact .inr (mQ _ h)
 intro x hx;rcases key l [] x hx with h | h
 ·cases h
 ·exact h
theorem sw{x:List UInt8}(h:Np.aG x=true):x.length<=60:=by
 unfold Np.aG at h;split at h
 ·rename_i e;rw[e];decide
 ·split at h
  ·cases h
  ·omega
theorem apY(a:ByteArray)(v:Value)(l:List Np.Signed)(bM:l.length<=20000)(hv:∀ x∈l,Np.aG x.set.name=true)(w:World)(hd:SlR bk 5 w w.heap.size v l) :
 Calls prog 305 #[.agg #[.string a,v]] w (xk RTx 1 w (Np.dM (Np.ct a.data.toList l))):=by
 have HD:=jq hd;obtain⟨A,c,rfl,bD,bL⟩:=al hd;have HW:Hid (∀ o,Below w.heap.size w (w.alloc o)):=jq (λo=>(vQ _ w).alloc (bQ _) _);have uM:Hid (∀ x∈Np.ct a.data.toList l,Np.aG x=true):=jq (λx hx=>by
  unfold Np.ct at hx;obtain⟨y,hy,rfl⟩:=List.mem_map.1 hx;exact hv y (List.mem_filter.1 hy).1)
 clear hd hv;go_enter func305,ntmps305;go_wp2_with fail;refine (apZ a _ l bM _ (HD.out.later ba bY (HW.out _))).mono ?_;rintro e w1 ⟨vc,rfl,Jp,aw⟩;have bh:w.heap.size<w1.heap.size:=by have:=aw.size;simp at this;omega
 have ay:=jq ((HW.out _).trans (aw.mono (by simp)));clear aw;have iy:(Np.ct a.data.toList l).length<=20000:=by
  unfold Np.ct;rw[List.length_map];exact yQ (List.length_filter_le _ _) bM
 generalize Np.ct a.data.toList l=cs at *;obtain⟨Ac,cc,rfl,tk,aTQ⟩:=al Jp;have HC:=jq Jp;clear Jp;go_wp2_with fail;go_loopw [4,5] (λvo i wr=>∃ (k:Nat),k<=cs.length/\i = .int .i64 k/\Hid (Below w1.heap.size w1 wr)/\Hid (ck w1.heap.size wr vo (Np.dM (cs.take k)))) (λ_ i _=>cs.length - (intOf i).toNat)
 case atStart=>exact⟨0,jQ _,rfl,jq (vQ _ _),jq ⟨by simp,.inl ⟨rfl,rfl⟩⟩⟩
 case round=>
  obtain⟨k,hk,rfl,HB,HO⟩:=hrel;have ap:=HB.out.size;have aB:=jq (ay.out.trans (HB.out.mono (by omega)));have xN:Hid (∀ x∈Np.dM (cs.take k),x.length<=140737488355328):=jq (λx hx=>by
   have:=sw (uM.out x (List.mem_of_mem_take (IN _ x hx)))
   omega)
  have jK:Hid ((Np.dM (cs.take k)).length<=20000):=jq (by have:=Oe cs k;omega);by_cases aa:k<cs.length
  ·obtain⟨x,ab⟩:∃ x,cs[k]?=some x:=⟨_,aQ aa⟩;obtain⟨b,o,sn,rfl,bU,aF,cx,f0⟩:=qu (HC.out.keep nr HB.out) ab;have Uf:Hid (Np.aG x=true):=jq (uM.out x (gQ ab));have HT:Hid (Np.dM (cs.take (k+1))=Np.nU (Np.dM (cs.take k)) x):=jq (by
    obtain⟨hl,he⟩:=cQ.1 ab;rw[fQ hl,Np.Oa,he])
   have aS:=jq aF;have bX:(0:Int)<=(k:Int):=by omega
   have bW:(k:Int)<(cs.length:Int):=by omega
   have aw:b<wr.heap.size:=by omega
   have tt:∀ (g:bK wr) (p:Addr),p.block<wr.heap.size->g.w.cell? p=wr.cell? p:=λg p h=>g.cell p h;have GI:=jq (HO.out.slr (by have:=jK.out;omega) xN.out);have Tz:Hid (∀ y∈Np.dM (cs.take k),Np.aG y=true):=jq (λy hy=>uM.out y (List.mem_of_mem_take (IN _ y hy)));clear ab aF;generalize Np.dM (cs.take k)=out at *;obtain⟨Ao,co,rfl⟩:=HO.out.form;by_cases h0:out.length=0
   ·obtain rfl:out = []:=rQ h0;have kw:Hid (Np.dM (cs.take (k+1)) = [] ++ [x]):=jq (by rw[HT.out];rfl);clear h0;go_wp2_with fail;refine f9 (by kernel_rfl) (by kernel_rfl) ?_
    repeat (go_big_quiet_step (fail))
    refine wpQuiet_nil ?_;rintro _ ⟨g,rfl⟩;have HG:=jq g.below;have gj:=g.size;have fg:g.w.cell? ⟨b,o+k,none⟩=some (.string sn):=(tt g _ aw).trans f0;have GK:=jq (HO.out.keep g.below);generalize g.w=w2 at *;go_wp2_with (at_builtin;refine zj _ rfl _ _ rfl w1.heap.size _ [] rfl (GK.out.alloc _) w2.heap.size sn.data.toList (by simp[go_sem]) (by simp[go_sem]) (by simp) (by simp;omega) ?_;intro v5 w5 dp aC;have H5:=jq (And.intro dp aC);clear dp aC);go_roundw
    case rel=>exact⟨k+1,by omega,by go_num,jq (((HB.out.trans (HG.out.mono (by omega))).alloc (by omega) _).trans H5.out.2),jq (by rw[kw.out,<-aS.out];exact H5.out.1)⟩
    case measure=>simp[intOf] <;> omega
   ·obtain⟨n,hn⟩:∃ n,out.length=n+1:=⟨out.length - 1,by omega⟩;obtain⟨q,hq⟩:∃ q,out[n]?=some q:=⟨_,aQ (by omega)⟩;obtain⟨b2,o2,sq,rfl,yh,kh,a1X,g0⟩:=qu GI.out hq;have dN:out.getLast?=some q:=by rw[List.getLast?_eq_getElem?,hn];exact hq
    have kw:Hid (Np.dM (cs.take (k+1))=if Np.bq x q=true then out else out ++ [x]):=jq (by rw[HT.out,Np.nU,dN]);have LS:Hid (Np.aG q=true):=jq (Tz.out q (gQ hq));obtain⟨bu,Iz⟩:∃ bu,Np.bq x q=bu:=⟨_,rfl⟩;have cL:∀ g:bK wr,Calls prog 222 #[.string sn,.string sq] g.w λe w'=>e = .returned (.bool bu)/\Below g.w.heap.size g.w w':=λg=>by
     have kf:q≠[]:=λe=>by have:=LS.out;rw[e] at this;exact absurd this (by decide)
     rw[<-Iz,<-Np.Cm kf,<-aS.out,<-kh];have s1:=sw Uf.out;have s2:=sw LS.out;rw[<-aS.out,aZ] at s1;rw[<-kh,aZ] at s2;exact E0 sn sq (by omega) (by omega) _
    have nv:=jq cL;have xo:=jq Iz;obtain⟨N,hN⟩:∃ N,out.length=N:=⟨_,rfl⟩;have HN:=jq hN;have tH:((N:Int) == 0)=false:=by rw[beq_eq_false_iff_ne];omega
    have aj:IntKind.i64.wrap ((N:Int) - 1)=(n:Int):=by rw[IntWalk.i64_in _ (by have:=jK.out;omega)];omega
    have nT:(0:Int)<=(n:Int):=by omega
    have rB:(n:Int)<(N:Int):=by omega
    have Lm:Hid (ck w1.heap.size wr (.slice (some ⟨b2,o2,none⟩) N co) out):=jq (by rw[<-hN];exact HO.out);rw[hN];clear hn hq kh dN cL Iz h0 hN
    cases bu with
    | true=>
     have cD:=jq (kw.out.trans (Qb xo.out));go_wp2_with fail;refine f9 (by kernel_rfl) (by kernel_rfl) ?_
     repeat (go_big_quiet_step ((go_at_call 222;exact Calls.grow_of (nv.out _))))
     refine wpQuiet_nil ?_;rintro _ ⟨g,rfl⟩;go_wp2_with fail;go_roundw
     case rel=>exact⟨k+1,by omega,by go_num,jq (HB.out.trans (g.below.mono (by omega))),jq (by rw[cD.out];exact Lm.out.keep g.below)⟩
     case measure=>simp[intOf] <;> omega
    | false=>
     have cD:=jq (kw.out.trans (Qc (by rw[xo.out];simp)));go_wp2_with fail;refine f9 (by kernel_rfl) (by kernel_rfl) ?_
     repeat (go_big_quiet_step ((go_at_call 222;exact Calls.grow_of (nv.out _))))
     refine wpQuiet_nil ?_;rintro _ ⟨g,rfl⟩;have HG:=jq g.below;have gj:=g.size;have fg:g.w.cell? ⟨b,o+k,none⟩=some (.string sn):=(tt g _ aw).trans f0;have GK:=jq (Lm.out.keep g.below);clear tt;generalize g.w=w2 at *;go_wp2_with (at_builtin;refine zj _ rfl _ _ rfl w1.heap.size _ out rfl (GK.out.alloc _) w2.heap.size sn.data.toList (by simp[go_sem]) (by simp[go_sem]) (by have:=jK.out;omega) (by simp;omega) ?_;intro v5 w5 dp aC;have H5:=jq (And.intro dp aC);clear dp aC);go_roundw
     case rel=>exact⟨k+1,by omega,by go_num,jq (((HB.out.trans (HG.out.mono (by omega))).alloc (by omega) _).trans H5.out.2),jq (by rw[cD.out,<-aS.out];exact H5.out.1)⟩
     case measure=>simp[intOf] <;> omega
  ·have HE:Hid (cs.take k=cs):=jq (kQ (by omega));go_wp2_with fail;go_ret;refine⟨_,rfl,?_,aB.out⟩;have h1:=HO.out;have h2:=jK.out;have h3:=xN.out;rw[HE.out] at h1 h2 h3;exact h1.slr (by omega) h3
theorem ME{a b c:List UInt8}(h1:Np.aI a b<=0)(h2:Np.aI b c<=0):Np.aI a c<=0:=by
 by_cases e1:Np.aI a b=0
 ·rw[Np.eW.zero _ _ e1];exact h2
 ·by_cases e2:Np.aI b c=0
  ·rw[<-Np.eW.zero _ _ e2];exact h1
  ·exact Int.le_of_lt (Np.eW.trans a b c (by omega) (by omega))
theorem Vv{a b c:List UInt8}(h1:0<Np.aI a c)(h2:Np.aI a b<0):0<Np.aI b c:=by
 have h3:=Np.eW.anti' _ _ h1;have h4:=Np.eW.trans _ _ _ h3 h2;exact Np.eW.anti _ _ h4
theorem E5{bs:List (List UInt8)}{n i:Nat}(hi:i<n):bs++List.replicate (n - i) []=bs ++ [[]]++List.replicate (n - (i+1)) []:=by
 rw[show n - i=(n - (i+1))+1 by omega,List.replicate_succ,List.append_assoc];rfl
theorem QU{bs:List (List UInt8)}{n i:Nat}{b:List UInt8}(hb:bs.length=i)(hi:i<n):(bs++List.replicate (n - i) []).set i b=bs ++ [b]++List.replicate (n - (i+1)) []:=by
 rw[show n - i=(n - (i+1))+1 by omega,List.replicate_succ,List.set_append_right _ _ (by omega),hb,Nat.sub_self,List.set_cons_zero,List.append_assoc];rfl
def Fu(n0 Bs:Nat)(w1:World)(z:Np.Zone)(H:List (List UInt8))(vk vi:Value)(wr:World):Prop:=
 ∃ (i k:Nat) (bs:List (List UInt8)),i<=z.sets.length/\k<=H.length/\vi = .int .i64 i/\vk = .int .i64 k/\bs.length=i/\Hid (Below Bs w1 wr)/\Hid (fe wr Bs (bs++List.replicate (z.sets.length - i) []))/\Bs<wr.heap.size/\n0<=Bs/\
   Hid (∀ (j:Nat) (x:Np.Signed) (b:List UInt8),z.sets[j]?=some x->bs[j]?=some b->Np.iN (Np.cu z) x.set.name b)/\Hid (∀ (j:Nat) (y:List UInt8) (x:Np.Signed),j<k->H[j]?=some y->z.sets[i]?=some x->Np.aI y x.set.name<=0)
theorem QJ(a:ByteArray)(v:Value)(l:List Np.Signed)(bM:l.length<=20000)(ho:Np.InOrder ⟨a.data.toList,l⟩)(hv:∀ x∈l,Np.aG x.set.name=true)(w:World)(hd:SlR bk 5 w w.heap.size v l) :
 Calls prog 237 #[.agg #[.string a,v]] w (xk RTx 1 w (Np.dC ⟨a.data.toList,l⟩)):=by
 have HD:=jq hd;obtain⟨A,c,rfl,bD,bL⟩:=al hd;have HW:Hid (∀ o,Below w.heap.size w (w.alloc o)):=jq (λo=>(vQ _ w).alloc (bQ _) _);have HO:=jq ho;have HV:=jq hv;have fS:Hid (∀ x∈Np.dM (Np.ct a.data.toList l),Np.aG x=true):=jq (λx hx=>by
  have hx:=IN _ x hx;unfold Np.ct at hx;obtain⟨y,hy,rfl⟩:=List.mem_map.1 hx;exact hv y (List.mem_filter.1 hy).1)
 have LM:Hid (∀ (n:List UInt8) (k:Nat),k<=(Np.dM (Np.ct a.data.toList l)).length->(∀ j x,j<k->(Np.dM (Np.ct a.data.toList l))[j]?=some x->Np.aI x n<=0)->(∀ j x,k<=j->(Np.dM (Np.ct a.data.toList l))[j]?=some x->0<Np.aI x n)->Np.iN (Np.cu ⟨a.data.toList,l⟩) n (Np.iZ (Np.dM (Np.ct a.data.toList l)) k n)):=jq (λn k hk h1 h2=>Np.apQ ho hk h1 h2);have T1:Hid ((Np.dM (Np.ct a.data.toList l)).Pairwise λa b=>Np.aI a b<0):=jq (Np.Oc ho).1.sorted;have hhl:(Np.dM (Np.ct a.data.toList l)).length<=20000:=by
  have h1:=Oe (Np.ct a.data.toList l) (Np.ct a.data.toList l).length;rw[List.take_length] at h1;have h2:(Np.ct a.data.toList l).length<=l.length:=by
   unfold Np.ct;rw[List.length_map];exact List.length_filter_le _ _
  omega
 clear hd ho;go_enter func237,ntmps237;go_wp2_with fail;refine (apY a _ l bM hv _ (HD.out.later ba bY (HW.out _))).mono ?_;rintro e w1 ⟨vh,rfl,Jq,aw⟩;have bh:w.heap.size<w1.heap.size:=by have:=aw.size;simp at this;omega
 have c1:w1.cell? ⟨w.heap.size,1,none⟩=some (.slice A l.length c):=by rw[aw.cell (by simp)];go_simp
 have ay:=jq ((HW.out _).trans (aw.mono (by simp)));clear aw hv;generalize Np.dM (Np.ct a.data.toList l)=H at *;obtain⟨Ah,ch,rfl,hch,aUQ⟩:=al Jq;have HH:=jq Jq;clear Jq;have fX:=JJ l.length bM;have HZ:Hid (∀ j,j<l.length->(madeCells #[Value.string ⟨#[]⟩] l.length)[j]?=some (.string ⟨#[]⟩)):=jq (λj hj=>JI _ _ hj);generalize madeCells #[Value.string ⟨#[]⟩] l.length=Z at fX HZ;go_wp2_with fail;obtain⟨Bs,oS⟩:∃ Bs,w1.heap.size=Bs:=⟨_,rfl⟩;obtain⟨w2,ae⟩:∃ w2,w1.alloc (.cells Z 9)=w2:=⟨_,rfl⟩;have ac:Below Bs w1 w2:=by rw[<-ae,<-oS];exact (vQ _ _).alloc (bQ _) _
 have aM:Bs<w2.heap.size:=by rw[<-ae];simp;omega
 have uG:Hid (fe w2 Bs ([]++List.replicate (l.length - 0) [])):=jq (λj x hx=>by
  rw[List.nil_append,Nat.sub_zero,List.getElem?_replicate] at hx;split at hx
  ·rename_i hj
   cases hx
   refine⟨⟨#[]⟩,rfl,by decide,?_,?_⟩
   ·rw[<-ae,<-oS];simp[go_sem];exact HZ.out j hj
   ·rw[<-ae,<-oS];simp[go_sem]
  ·cases hx)
 have ak:=jq ac;rw[ae,oS];clear ae ac fX HZ;go_loopw [5,6] (λvk vi wr=>Fu w.heap.size Bs w1 ⟨a.data.toList,l⟩ H vk vi wr) (λ_ i _=>l.length - (intOf i).toNat)
 case atStart=>exact⟨0,0,[],jQ _,jQ _,rfl,rfl,rfl,ak,uG,aM,by omega,jq (λj x b _ hb=>by simp at hb),jq (λj y x hj=>by omega)⟩
 case round=>
  obtain⟨i,k,bs,hi,hk,rfl,rfl,bC,HB,HR,mI,OD,HT,HK⟩:=hrel;have hi:i<=l.length:=hi;have d1:wr.cell? ⟨w.heap.size,1,none⟩=some (.slice A l.length c):=(HB.out.cell (by dsimp only;omega)).trans c1;have aB:Hid (Below w.heap.size w wr):=jq (ay.out.trans (HB.out.mono (by omega)));have cK:w.heap.size<wr.heap.size:=by omega
  by_cases aa:i<l.length
  ·obtain⟨x,ab⟩:∃ x,l[i]?=some x:=⟨_,aQ aa⟩;obtain⟨b,o,c',sn,dv,sv,hA,bU,_,aF,cx,aV,aR,f0,f1,f2,f3,f4⟩:=eV (HD.out.keep ba aB.out) ab
   cases hA
   have HX:=jq ab;have aS:=jq aF;have YU:sn.size<=60:=by have:=sw (HV.out x (gQ ab));rw[<-aF,aZ] at this;exact this
   have nT:(0:Int)<=(i:Int):=by omega
   have rB:(i:Int)<(l.length:Int):=by omega
   have aw:b<wr.heap.size:=by omega
   have uw:Hid (∀ (j:Nat) (y:List UInt8),j<k->H[j]?=some y->Np.aI y sn.data.toList<=0):=jq (λj y hj hy=>by rw[aF];exact HK.out j y x hj hy ab);clear ab aF aV aR f1 f2 f3 f4 HK;go_wp2_with fail;obtain⟨wo,rfl⟩:∃ wo,wo=wr:=⟨_,rfl⟩;go_loopw [5] (λvk wr=>∃ k:Nat,k<=H.length/\vk = .int .i64 k/\Hid (Below wo.heap.size wo wr)/\Hid (∀ (j:Nat) (y:List UInt8),j<k->H[j]?=some y->Np.aI y sn.data.toList<=0)) (λk _=>H.length - (intOf k).toNat)
   case atStart=>exact⟨k,hk,rfl,jq (vQ _ _),uw⟩
   case round=>
    obtain⟨k,hk,rfl,qx,zL⟩:=hrel;have rW:=qx.out.size;have Se:Hid (SlR RTx 1 wr w1.heap.size (.slice Ah H.length ch) H):=jq ((HH.out.keep nr (HB.out.mono (by omega))).keep nr (qx.out.mono (by omega)));by_cases l7:k<H.length
    ·obtain⟨y,dW⟩:∃ y,H[k]?=some y:=⟨_,aQ l7⟩;obtain⟨b2,o2,sy,rfl,yh,gm,a1Y,g0⟩:=qu Se.out dW;have a1K:sy.size<=60:=by have:=sw (fS.out y (gQ dW));rw[<-gm,aZ] at this;exact this
     have HY:=jq dW;have nD:=jq gm;have bX:(0:Int)<=(k:Int):=by omega
     have bW:(k:Int)<(H.length:Int):=by omega
     clear dW gm;go_wp2_with fail;refine (JQ sy sn (by omega) (by omega) _).mono ?_;rintro e w6 ⟨rfl,aO⟩;have dh:=jq aO;have gI:=aO.size;clear aO;by_cases gk:Np.aI sy.data.toList sn.data.toList<=0
     ·have HN:Hid (∀ (j:Nat) (y:List UInt8),j<k+1->H[j]?=some y->Np.aI y sn.data.toList<=0):=jq (λj z hj hz=>by
       by_cases e:j=k
       ·subst e;rw[HY.out] at hz;cases hz;rw[<-nD.out];exact gk
       ·exact zL.out j z (by omega) hz)
      go_wp2_with fail;go_roundw
      case rel=>exact⟨k+1,by omega,by go_num,jq (qx.out.trans (dh.out.mono qx.out.size)),jq HN.out⟩
      case measure=>simp[intOf] <;> omega
     ·have zI:Hid (∀ (j:Nat) (y:List UInt8),k<=j->H[j]?=some y->0<Np.aI y sn.data.toList):=jq (λj z hj hz=>by
       by_cases e:j=k
       ·subst e;rw[HY.out] at hz;cases hz;rw[<-nD.out];omega
       ·obtain⟨h1,e1⟩:=cQ.1 HY.out;obtain⟨h2,e2⟩:=cQ.1 hz
        have:=List.pairwise_iff_getElem.1 T1.out k j h1 h2 (by omega)
        rw[e1,e2] at this;exact Vv (by rw[<-nD.out];omega) this)
      have lM:Hid (∀ W',Below Bs w1 W'->Bs<W'.heap.size->fe W' Bs (bs ++ [Np.iZ H k sn.data.toList]++List.replicate (l.length - (i+1)) [])->Fu w.heap.size Bs w1 ⟨a.data.toList,l⟩ H (.int .i64 k) (.int .i64 (i+1)) W'):=jq (λW' h1 h2 h3=>by
       refine⟨i+1,k,bs ++ [Np.iZ H k sn.data.toList],by show i+1<=l.length;omega,hk,by go_num,rfl,by simp[bC],jq h1,jq h3,h2,OD,jq λj x' b' hx' hb'=>?_,jq λj y x' hj hy hx'=>?_⟩
       ·have hx':l[j]?=some x':=hx';by_cases e:j<i
        ·rw[List.getElem?_append_left (by omega)] at hb';exact HT.out j x' b' hx' hb'
        ·have l5:j=i:=by have:=(cQ.1 hb').1;simp at this;omega
         subst l5;rw[HX.out] at hx';cases hx';rw[oQ (by omega),bC,Nat.sub_self] at hb'
         cases hb'
         rw[<-aS.out];exact LM.out _ k hk zL.out zI.out
       ·obtain⟨q1,e1⟩:=cQ.1 HX.out;have hx':l[i+1]?=some x':=hx';obtain⟨q2,e2⟩:=cQ.1 hx';have h4:=HO.out.names (show i<i+1 by omega) q2;dsimp only at h4;rw[e1,e2,<-aS.out] at h4;exact ME (zL.out j y hj hy) h4)
      have q9:=jq (qx.out.trans (dh.out.mono qx.out.size));have zw:Hid (Below Bs w1 w6):=jq (HB.out.trans (q9.out.mono (by omega)));have AL:Bs<w6.heap.size:=by have:=q9.out.size;omega
      have li:Hid (fe w6 Bs (bs++List.replicate (l.length - i) [])):=jq (HR.out.keep q9.out (by omega));by_cases iC:k=0
      ·have iU:decide ((0:Int)<(k:Int))=false:=by simp;omega
       have ie:decide (0<k)=false:=by simp;omega
       have lP:Hid (Np.iZ H k sn.data.toList = []):=jq (by unfold Np.iZ;rw[Qc (by omega)]);clear iC;go_wp2_with fail;go_roundw
       case rel=>exact lM.out _ zw.out AL (by rw[lP.out,<-E5 aa];exact li.out)
       case measure=>simp[intOf] <;> omega
      ·obtain⟨m,l9⟩:∃ m,k=m+1:=⟨k - 1,by omega⟩;obtain⟨z,gj⟩:∃ z,H[m]?=some z:=⟨_,aQ (by omega)⟩;obtain⟨b3,o3,sz,vm,NK,kJ,Jk,g3⟩:=qu ((HH.out.keep nr (HB.out.mono (by omega))).keep nr (q9.out.mono (by omega))) gj;have YW:sz.size<=60:=by have:=sw (fS.out z (gQ gj));rw[<-kJ,aZ] at this;exact this
       have Ck:z≠[]:=λe=>by have:=fS.out z (gQ gj);rw[e] at this;exact absurd this (by decide)
       have Gi:Hid (Np.inL (Np.ek sn.data.toList) (Np.ek sz.data.toList)=Np.bq sn.data.toList z):=jq (by rw[kJ];exact Np.Cm Ck);have lP:Hid (Np.iZ H k sn.data.toList=if Np.bq sn.data.toList z=true then z else []):=jq (by unfold Np.iZ;rw[l9,show m+1 - 1=m by omega,gj];simp);have xN:=jq kJ;have iU:decide ((0:Int)<(k:Int))=true:=by simp;omega
       have ie:decide (0<k)=true:=by simp;omega
       have aj:IntKind.i64.wrap ((k:Int) - 1)=(m:Int):=by rw[IntWalk.i64_in _ (by omega)];omega
       have ju:(0:Int)<=(m:Int):=by omega
       have tv:(m:Int)<(H.length:Int):=by omega
       clear gj kJ l9 iC Ck;simp only[Option.some.injEq,Addr.mk.injEq,and_true] at vm;obtain⟨rfl,rfl⟩:=vm;go_wp2_with fail;refine (E0 sn sz (by omega) (by omega) _).mono ?_;rw[Gi.out];rintro e w7 ⟨rfl,eP⟩;have eI:=jq eP;have po:=eP.size;clear eP;have zx:Hid (Below Bs w1 w7):=jq (zw.out.trans (eI.out.mono (by omega)));have AN:Bs<w7.heap.size:=by omega
       have uH:Hid (fe w7 Bs (bs++List.replicate (l.length - i) [])):=jq (li.out.keep eI.out (by omega));have g37:w7.cell? ⟨b2,o2+m,none⟩=some (.string sz):=(eI.out.cell (by dsimp only;omega)).trans g3;obtain⟨s0,_,_,gS,kH⟩:=uH.out i [] (by rw[oQ (by omega),bC,Nat.sub_self,List.getElem?_replicate,Qb (by omega)])
       cases hu:Np.bq sn.data.toList z with
       | true=>
        have eL:Hid (Np.iZ H k sn.data.toList=sz.data.toList):=jq (by rw[lP.out,hu,Qb rfl,xN.out]);clear hu;go_wp2_with fail;go_roundw
        case rel=>exact lM.out _ (zx.out.setCell (by simp) _) (by simpa using AN) (by rw[eL.out,<-QU bC aa];exact uH.out.store (by rw[List.length_append,List.length_replicate];omega) sz Jk)
        case measure=>simp[intOf] <;> omega
       | false=>
        have eL:Hid (Np.iZ H k sn.data.toList = []):=jq (by rw[lP.out,hu];rfl);clear hu;go_wp2_with fail;go_roundw
        case rel=>exact lM.out _ zx.out AN (by rw[eL.out,<-E5 aa];exact uH.out)
        case measure=>simp[intOf] <;> omega
    ·have zI:Hid (∀ (j:Nat) (y:List UInt8),k<=j->H[j]?=some y->0<Np.aI y sn.data.toList):=jq (λj z hj hz=>by have:=(cQ.1 hz).1;omega);have nV:decide ((k:Int)<(H.length:Int))=false:=by simp;omega
     have lM:Hid (∀ W',Below Bs w1 W'->Bs<W'.heap.size->fe W' Bs (bs ++ [Np.iZ H k sn.data.toList]++List.replicate (l.length - (i+1)) [])->Fu w.heap.size Bs w1 ⟨a.data.toList,l⟩ H (.int .i64 k) (.int .i64 (i+1)) W'):=jq (λW' h1 h2 h3=>by
      refine⟨i+1,k,bs ++ [Np.iZ H k sn.data.toList],by show i+1<=l.length;omega,hk,by go_num,rfl,by simp[bC],jq h1,jq h3,h2,OD,jq λj x' b' hx' hb'=>?_,jq λj y x' hj hy hx'=>?_⟩
      ·have hx':l[j]?=some x':=hx';by_cases e:j<i
       ·rw[List.getElem?_append_left (by omega)] at hb';exact HT.out j x' b' hx' hb'
       ·have l5:j=i:=by have:=(cQ.1 hb').1;simp at this;omega
        subst l5;rw[HX.out] at hx';cases hx';rw[oQ (by omega),bC,Nat.sub_self] at hb'
        cases hb'
        rw[<-aS.out];exact LM.out _ k hk zL.out zI.out
      ·obtain⟨q1,e1⟩:=cQ.1 HX.out;have hx':l[i+1]?=some x':=hx';obtain⟨q2,e2⟩:=cQ.1 hx';have h4:=HO.out.names (show i<i+1 by omega) q2;dsimp only at h4;rw[e1,e2,<-aS.out] at h4;exact ME (zL.out j y hj hy) h4)
     have q9:=jq (qx.out);have zw:Hid (Below Bs w1 wr):=jq (HB.out.trans (q9.out.mono (by omega)));have AL:Bs<wr.heap.size:=by have:=q9.out.size;omega
     have li:Hid (fe wr Bs (bs++List.replicate (l.length - i) [])):=jq (HR.out.keep q9.out (by omega));by_cases iC:k=0
     ·have iU:decide ((0:Int)<(k:Int))=false:=by simp;omega
      have ie:decide (0<k)=false:=by simp;omega
      have lP:Hid (Np.iZ H k sn.data.toList = []):=jq (by unfold Np.iZ;rw[Qc (by omega)]);clear iC;go_wp2_with fail;go_roundw
      case rel=>exact lM.out _ zw.out AL (by rw[lP.out,<-E5 aa];exact li.out)
      case measure=>simp[intOf] <;> omega
     ·obtain⟨m,l9⟩:∃ m,k=m+1:=⟨k - 1,by omega⟩;obtain⟨z,gj⟩:∃ z,H[m]?=some z:=⟨_,aQ (by omega)⟩;obtain⟨b3,o3,sz,vm,NK,kJ,Jk,g3⟩:=qu ((HH.out.keep nr (HB.out.mono (by omega))).keep nr (q9.out.mono (by omega))) gj;have YW:sz.size<=60:=by have:=sw (fS.out z (gQ gj));rw[<-kJ,aZ] at this;exact this
      have Ck:z≠[]:=λe=>by have:=fS.out z (gQ gj);rw[e] at this;exact absurd this (by decide)
      have Gi:Hid (Np.inL (Np.ek sn.data.toList) (Np.ek sz.data.toList)=Np.bq sn.data.toList z):=jq (by rw[kJ];exact Np.Cm Ck);have lP:Hid (Np.iZ H k sn.data.toList=if Np.bq sn.data.toList z=true then z else []):=jq (by unfold Np.iZ;rw[l9,show m+1 - 1=m by omega,gj];simp);have xN:=jq kJ;have iU:decide ((0:Int)<(k:Int))=true:=by simp;omega
      have ie:decide (0<k)=true:=by simp;omega
      have aj:IntKind.i64.wrap ((k:Int) - 1)=(m:Int):=by rw[IntWalk.i64_in _ (by omega)];omega
      have ju:(0:Int)<=(m:Int):=by omega
      have tv:(m:Int)<(H.length:Int):=by omega
      clear gj kJ l9 iC Ck;subst vm;go_wp2_with fail;refine (E0 sn sz (by omega) (by omega) _).mono ?_;rw[Gi.out];rintro e w7 ⟨rfl,eP⟩;have eI:=jq eP;have po:=eP.size;clear eP;have zx:Hid (Below Bs w1 w7):=jq (zw.out.trans (eI.out.mono (by omega)));have AN:Bs<w7.heap.size:=by omega
      have uH:Hid (fe w7 Bs (bs++List.replicate (l.length - i) [])):=jq (li.out.keep eI.out (by omega));have g37:w7.cell? ⟨b3,o3+m,none⟩=some (.string sz):=(eI.out.cell (by dsimp only;omega)).trans g3;obtain⟨s0,_,_,gS,kH⟩:=uH.out i [] (by rw[oQ (by omega),bC,Nat.sub_self,List.getElem?_replicate,Qb (by omega)])
      cases hu:Np.bq sn.data.toList z with
      | true=>
       have eL:Hid (Np.iZ H k sn.data.toList=sz.data.toList):=jq (by rw[lP.out,hu,Qb rfl,xN.out]);clear hu;go_wp2_with fail;go_roundw
       case rel=>exact lM.out _ (zx.out.setCell (by simp) _) (by simpa using AN) (by rw[eL.out,<-QU bC aa];exact uH.out.store (by rw[List.length_append,List.length_replicate];omega) sz Jk)
       case measure=>simp[intOf] <;> omega
      | false=>
       have eL:Hid (Np.iZ H k sn.data.toList = []):=jq (by rw[lP.out,hu];rfl);clear hu;go_wp2_with fail;go_roundw
       case rel=>exact lM.out _ zx.out AN (by rw[eL.out,<-E5 aa];exact uH.out)
       case measure=>simp[intOf] <;> omega
  ·have IL:i=l.length:=by omega
   have HE:Hid (SlR RTx 1 wr wr.heap.size (.slice (some ⟨Bs,0,none⟩) l.length l.length) (Np.dC ⟨a.data.toList,l⟩)):=jq (by
    have h1:=HR.out;have e:l.length - i=0:=by omega
    dsimp only at h1;rw[e,List.replicate_zero,List.append_nil] at h1;have h2:=h1.slr mI (by omega);have h3:=Np.U0 HO.out (B:=bs) (by rw[bC];exact IL) HT.out;rw[<-h3];rw[bC,IL] at h2;exact h2)
   clear IL;go_wp2_with fail;go_ret;exact⟨_,rfl,HE.out,aB.out⟩
theorem apX(a:ByteArray)(v:Value)(l:List Np.Signed)(bM:l.length<=20000)(ho:Np.InOrder ⟨a.data.toList,l⟩)(hv:∀ x∈l,Np.aG x.set.name=true)(w:World)(hd:SlR bk 5 w w.heap.size v l) :
 Calls prog 162 #[.agg #[.string a,v]] w λe w'=>e = .returned (.bool (Np.yes (Np.pt l (Np.dC ⟨a.data.toList,l⟩))))/\Below w.heap.size w w':=by
 obtain⟨B,hB⟩:∃ B,Np.dC ⟨a.data.toList,l⟩=B:=⟨_,rfl⟩;have jn:B.length=l.length:=by rw[<-hB];exact Np.s6 _
 obtain⟨r,hr⟩:∃ r,Np.yes (Np.pt l (Np.dC ⟨a.data.toList,l⟩))=r:=⟨_,rfl⟩;rw[hr];rw[hB] at hr;have HR:=jq hr;have eX:=jq jn;have kp:=jq hB;have HD:=jq hd;have HO:=jq ho;have HV:=jq hv;obtain⟨A,c,rfl,bD,bL⟩:=al hd;clear hr hd ho hv hB jn;have HW:Hid (∀ o,Below w.heap.size w (w.alloc o)):=jq (λo=>(vQ _ w).alloc (bQ _) _);go_enter func162,ntmps162;go_wp2_with fail;refine (QJ a _ l bM HO.out HV.out _ (HD.out.later ba bY (HW.out _))).mono ?_;rintro e w1 ⟨bv,rfl,gR,aw⟩;have dG:w.heap.size<w1.heap.size:=by have:=aw.size;simp at this;omega
 have c1':w1.cell? ⟨w.heap.size,1,none⟩=some (.slice A l.length c):=by rw[aw.cell (by simp)];go_simp
 have ay:=jq ((HW.out _).trans (aw.mono (by simp)));obtain⟨A2,c2,rfl,ew,dF⟩:=al gR;rw[kp.out] at ew dF gR |-;rw[eX.out] at ew dF gR |-;have lJ:=jq gR;clear aw gR;go_wp2_with fail;go_loopw [4] (λi wr=>∃ k:Nat,k<=l.length/\i = .int .i64 k/\Hid (Below w1.heap.size w1 wr)/\Hid (∀ j x b,j<k->l[j]?=some x->B[j]?=some b->Np.jI x.set b)) (λi _=>l.length - (intOf i).toNat)
 case atStart=>exact⟨0,jQ _,rfl,jq (vQ _ _),jq (λj x b hj=>by omega)⟩
 case round=>
  obtain⟨k,hk,rfl,HB,HA⟩:=hrel;have ap:=HB.out.size;have aB:=jq (ay.out.trans (HB.out.mono (by omega)));have d1:wr.cell? ⟨w.heap.size,1,none⟩=some (.slice A l.length c):=(HB.out.cell (by dsimp only;omega)).trans c1';by_cases aa:k<l.length
  ·obtain⟨x,ab⟩:∃ x,l[k]?=some x:=⟨_,aQ aa⟩;obtain⟨bb,dL⟩:∃ bb,B[k]?=some bb:=⟨_,aQ (by rw[eX.out];omega)⟩;obtain⟨b,o,c',sn,dv,sv,hA,bU,_,aF,cx,aV,aR,e0,e1,e2,e3,e4⟩:=eV (HD.out.keep ba aB.out) ab
   cases hA
   obtain⟨b2,o2,sb,rfl,yh,pi,Jj,g0⟩:=qu (lJ.out.keep nr HB.out) dL;have HN:Hid (Np.jI x.set bb->∀ j x b,j<k+1->l[j]?=some x->B[j]?=some b->Np.jI x.set b):=jq (λh j x b hj hx hb=>by
    by_cases e:j=k
    ·subst e;rw[ab] at hx;rw[dL] at hb;cases hx;cases hb;exact h
    ·exact HA.out j x b (by omega) hx hb)
   have HF:Hid (¬ Np.jI x.set bb->r=false):=jq (λh=>by
    rw[<-HR.out];exact Np.aN λq=>h (q k _ _ ab dL))
   clear ab dL;obtain⟨Ad,cd,rfl,_,_⟩:=al aV;obtain⟨As,cs,rfl,_,_⟩:=al aR;have hcell:wr.cell? ⟨w.heap.size,1,none⟩=some (.slice (some ⟨b,o,none⟩) l.length c):=(HB.out.cell (by dsimp only;omega)).trans c1';have cK:w.heap.size<wr.heap.size:=by omega
   have aw:b<wr.heap.size:=by omega
   have ac:b2<wr.heap.size:=by omega
   have bg:Hid (∀ o,Below w1.heap.size w1 (wr.alloc o)):=jq (λo=>HB.out.alloc HB.out.size _);have oz:Hid (∀ o,Below w.heap.size w (wr.alloc o)):=jq (λo=>aB.out.alloc (by omega) _);have bX:(0:Int)<=(k:Int):=by omega
   have bW:(k:Int)<(l.length:Int):=by omega
   have aS:=jq aF;have eJ:=jq pi;obtain⟨ty,dX⟩:∃ ty,x.set.type=ty:=⟨_,rfl⟩;have dB:=jq dX;rw[dX] at e1;clear aF pi aV aR dX e4;by_cases cT:bb = []
   ·obtain rfl:sb=⟨#[]⟩:=lH (by rw[eJ.out,cT]);have bI:=jq (MK (x:=x.set) cT);clear cT;by_cases h6:ty=6
    ·have HX:Hid (r=false):=jq (HF.out λh=>(bI.out.1 h) (dB.out.trans h6));subst h6;go_wp2_with fail;go_quiet (fail);obtain⟨w2,ae⟩:∃ w2,(wr.alloc (.cells #[.string sn,.int .i64 6,.int .i64 x.set.life,.slice Ad x.set.data.length cd] 26)).drewN nq=w2:=⟨_,rfl⟩;rw[ae];have cw:Below wr.heap.size wr w2:=by rw[<-ae];exact below_drewN ((vQ _ _).alloc (bQ _) _) _
     have p1:w2.cell? ⟨wr.heap.size,1,none⟩=some (.int .i64 6):=by rw[<-ae];simp[go_sem]
     have g02:w2.cell? ⟨b2,o2+k,none⟩=some (.string ⟨#[]⟩):=(cw.cell (by dsimp only;omega)).trans g0;have er:=jq (HB.out.trans (cw.mono HB.out.size));have oN:=jq (aB.out.trans (cw.mono (by omega)));clear cw ae g0;go_wp2_with fail;go_ret;exact⟨ag HX.out.symm,oN.out⟩
    ·have HX:=jq (HN.out (bI.out.2 λh=>h6 (dB.out.symm.trans h)));have h6':(ty == 6)=false:=by simpa using h6
     clear h6;go_wp2_with fail;go_quiet (fail);obtain⟨w2,ae⟩:∃ w2,(wr.alloc (.cells #[.string sn,.int .i64 ty,.int .i64 x.set.life,.slice Ad x.set.data.length cd] 26)).drewN nq=w2:=⟨_,rfl⟩;rw[ae];have cw:Below wr.heap.size wr w2:=by rw[<-ae];exact below_drewN ((vQ _ _).alloc (bQ _) _) _
     have p1:w2.cell? ⟨wr.heap.size,1,none⟩=some (.int .i64 ty):=by rw[<-ae];simp[go_sem]
     have g02:w2.cell? ⟨b2,o2+k,none⟩=some (.string ⟨#[]⟩):=(cw.cell (by dsimp only;omega)).trans g0;have er:=jq (HB.out.trans (cw.mono HB.out.size));have oN:=jq (aB.out.trans (cw.mono (by omega)));clear cw ae g0;go_wp2_with fail;go_roundw
     case rel=>exact⟨k+1,by omega,by go_num,jq er.out,jq HX.out⟩
     case measure=>simp[intOf] <;> omega
   ·have yx:(sb.toList == [])=false:=by rw[dQ,eJ.out];simpa using cT
    by_cases iS:bb=x.set.name
    ·have Iw:(sn.toList == sb.toList)=true:=by rw[dQ,dQ,eJ.out,aS.out];simpa using iS.symm
     have bI:=jq (ML (x:=x.set) cT iS);clear cT iS;by_cases ht:ty=2\/ty=6\/ty=8\/ty=1
     ·have HX:=jq (HN.out (bI.out.2 (by rw[dB.out];exact ht)));rcases ht with rfl | rfl | rfl | rfl
      ·skip
       go_wp2_with fail;go_quiet (fail);obtain⟨w2,ae⟩:∃ w2,(wr.alloc (.cells #[.string sn,.int .i64 2,.int .i64 x.set.life,.slice Ad x.set.data.length cd] 26)).drewN nq=w2:=⟨_,rfl⟩;rw[ae];have cw:Below wr.heap.size wr w2:=by rw[<-ae];exact below_drewN ((vQ _ _).alloc (bQ _) _) _
       have p1:w2.cell? ⟨wr.heap.size,1,none⟩=some (.int .i64 2):=by rw[<-ae];simp[go_sem]
       have g02:w2.cell? ⟨b2,o2+k,none⟩=some (.string sb):=(cw.cell (by dsimp only;omega)).trans g0;have er:=jq (HB.out.trans (cw.mono HB.out.size));have oN:=jq (aB.out.trans (cw.mono (by omega)));clear cw ae g0;go_wp2_with fail;go_roundw
       case rel=>exact⟨k+1,by omega,by go_num,jq er.out,jq HX.out⟩
       case measure=>simp[intOf] <;> omega
      ·skip
       go_wp2_with fail;go_quiet (fail);obtain⟨w2,ae⟩:∃ w2,(wr.alloc (.cells #[.string sn,.int .i64 6,.int .i64 x.set.life,.slice Ad x.set.data.length cd] 26)).drewN nq=w2:=⟨_,rfl⟩;rw[ae];have cw:Below wr.heap.size wr w2:=by rw[<-ae];exact below_drewN ((vQ _ _).alloc (bQ _) _) _
       have p1:w2.cell? ⟨wr.heap.size,1,none⟩=some (.int .i64 6):=by rw[<-ae];simp[go_sem]
       have g02:w2.cell? ⟨b2,o2+k,none⟩=some (.string sb):=(cw.cell (by dsimp only;omega)).trans g0;have er:=jq (HB.out.trans (cw.mono HB.out.size));have oN:=jq (aB.out.trans (cw.mono (by omega)));clear cw ae g0;go_wp2_with fail;go_roundw
       case rel=>exact⟨k+1,by omega,by go_num,jq er.out,jq HX.out⟩
       case measure=>simp[intOf] <;> omega
      ·skip
       go_wp2_with fail;go_quiet (fail);obtain⟨w2,ae⟩:∃ w2,(wr.alloc (.cells #[.string sn,.int .i64 8,.int .i64 x.set.life,.slice Ad x.set.data.length cd] 26)).drewN nq=w2:=⟨_,rfl⟩;rw[ae];have cw:Below wr.heap.size wr w2:=by rw[<-ae];exact below_drewN ((vQ _ _).alloc (bQ _) _) _
       have p1:w2.cell? ⟨wr.heap.size,1,none⟩=some (.int .i64 8):=by rw[<-ae];simp[go_sem]
       have g02:w2.cell? ⟨b2,o2+k,none⟩=some (.string sb):=(cw.cell (by dsimp only;omega)).trans g0;have er:=jq (HB.out.trans (cw.mono HB.out.size));have oN:=jq (aB.out.trans (cw.mono (by omega)));clear cw ae g0;go_wp2_with fail;go_roundw
       case rel=>exact⟨k+1,by omega,by go_num,jq er.out,jq HX.out⟩
       case measure=>simp[intOf] <;> omega
      ·skip
       go_wp2_with fail;go_quiet (fail);obtain⟨w2,ae⟩:∃ w2,(wr.alloc (.cells #[.string sn,.int .i64 1,.int .i64 x.set.life,.slice Ad x.set.data.length cd] 26)).drewN nq=w2:=⟨_,rfl⟩;rw[ae];have cw:Below wr.heap.size wr w2:=by rw[<-ae];exact below_drewN ((vQ _ _).alloc (bQ _) _) _
       have p1:w2.cell? ⟨wr.heap.size,1,none⟩=some (.int .i64 1):=by rw[<-ae];simp[go_sem]
       have g02:w2.cell? ⟨b2,o2+k,none⟩=some (.string sb):=(cw.cell (by dsimp only;omega)).trans g0;have er:=jq (HB.out.trans (cw.mono HB.out.size));have oN:=jq (aB.out.trans (cw.mono (by omega)));clear cw ae g0;go_wp2_with fail;go_roundw
       case rel=>exact⟨k+1,by omega,by go_num,jq er.out,jq HX.out⟩
       case measure=>simp[intOf] <;> omega
     ·have HX:Hid (r=false):=jq (HF.out λh=>ht (by have:=bI.out.1 h;rwa [dB.out] at this));have t1:(ty != 2)=true:=by simp;omega
      have t2:(ty != 6)=true:=by simp;omega
      have t3:(ty != 8)=true:=by simp;omega
      have t4:(ty != 1)=true:=by simp;omega
      clear ht;go_wp2_with fail;go_quiet (fail);obtain⟨w2,ae⟩:∃ w2,(wr.alloc (.cells #[.string sn,.int .i64 ty,.int .i64 x.set.life,.slice Ad x.set.data.length cd] 26)).drewN nq=w2:=⟨_,rfl⟩;rw[ae];have cw:Below wr.heap.size wr w2:=by rw[<-ae];exact below_drewN ((vQ _ _).alloc (bQ _) _) _
      have p1:w2.cell? ⟨wr.heap.size,1,none⟩=some (.int .i64 ty):=by rw[<-ae];simp[go_sem]
      have g02:w2.cell? ⟨b2,o2+k,none⟩=some (.string sb):=(cw.cell (by dsimp only;omega)).trans g0;have er:=jq (HB.out.trans (cw.mono HB.out.size));have oN:=jq (aB.out.trans (cw.mono (by omega)));clear cw ae g0;go_wp2_with fail;go_ret;exact⟨ag HX.out.symm,oN.out⟩
    ·have Iw:(sn.toList == sb.toList)=false:=by rw[dQ,dQ,eJ.out,aS.out];simpa using λe:x.set.name=bb=>iS e.symm
     have bI:=jq (MM (x:=x.set) cT iS);clear cT iS;by_cases ht:ty=1
     ·have HX:=jq (HN.out (bI.out.2 (by rw[dB.out];exact ht)));subst ht;go_wp2_with fail;go_quiet (fail);obtain⟨w2,ae⟩:∃ w2,(wr.alloc (.cells #[.string sn,.int .i64 1,.int .i64 x.set.life,.slice Ad x.set.data.length cd] 26)).drewN nq=w2:=⟨_,rfl⟩;rw[ae];have cw:Below wr.heap.size wr w2:=by rw[<-ae];exact below_drewN ((vQ _ _).alloc (bQ _) _) _
      have p1:w2.cell? ⟨wr.heap.size,1,none⟩=some (.int .i64 1):=by rw[<-ae];simp[go_sem]
      have g02:w2.cell? ⟨b2,o2+k,none⟩=some (.string sb):=(cw.cell (by dsimp only;omega)).trans g0;have er:=jq (HB.out.trans (cw.mono HB.out.size));have oN:=jq (aB.out.trans (cw.mono (by omega)));clear cw ae g0;go_wp2_with fail;go_roundw
      case rel=>exact⟨k+1,by omega,by go_num,jq er.out,jq HX.out⟩
      case measure=>simp[intOf] <;> omega
     ·have HX:Hid (r=false):=jq (HF.out λh=>ht (by have:=bI.out.1 h;rwa [dB.out] at this));have t4:(ty != 1)=true:=by simpa using ht
      clear ht;go_wp2_with fail;go_quiet (fail);obtain⟨w2,ae⟩:∃ w2,(wr.alloc (.cells #[.string sn,.int .i64 ty,.int .i64 x.set.life,.slice Ad x.set.data.length cd] 26)).drewN nq=w2:=⟨_,rfl⟩;rw[ae];have cw:Below wr.heap.size wr w2:=by rw[<-ae];exact below_drewN ((vQ _ _).alloc (bQ _) _) _
      have p1:w2.cell? ⟨wr.heap.size,1,none⟩=some (.int .i64 ty):=by rw[<-ae];simp[go_sem]
      have g02:w2.cell? ⟨b2,o2+k,none⟩=some (.string sb):=(cw.cell (by dsimp only;omega)).trans g0;have er:=jq (HB.out.trans (cw.mono HB.out.size));have oN:=jq (aB.out.trans (cw.mono (by omega)));clear cw ae g0;go_wp2_with fail;go_ret;exact⟨ag HX.out.symm,oN.out⟩
  ·go_wp2_with fail;go_ret;refine⟨ag ?_,aB.out⟩;rw[<-HR.out];exact (Np.bO λi x b hx hb=>HA.out i x b (by have:=(cQ.1 hx).1;omega) hx hb).symm
end
end Go.Proofs.YtfnopgdcaanaiaaGreatDoor
