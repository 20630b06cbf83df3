/- Parts of the proof. No condition. -/
import Derived.Test.YtbfbobfbgabjiaaGreatDoorP15
import Derived.Test.YtbfbobfbgabjiaaGreatDoorP17
set_option linter.all false
set_option maxRecDepth 100000
set_option maxHeartbeats 8000000
namespace Go.Proofs.YtbfbobfbgabjiaaGreatDoor
open Go.Proofs.Tryz
section
open Go.RowKit
theorem OR(l:List (List UInt8)):∀ k,(Np.dZ (l.take k)).length<=k:=by
 intro k;have key:∀ (r o:List (List UInt8)),(r.foldl Np.oF o).length<=o.length+r.length:=by
  intro r
  induction r with
  | nil=>intro o; simp
  | cons c r ih=>
   intro o;have h1:(Np.oF o c).length<=o.length+1:=by
    unfold Np.oF
    cases o.getLast? with
    | none=>simp
    | some q=>dsimp only; split <;> simp
   have:=ih (Np.oF o c)
   rw[List.foldl_cons,List.length_cons]; omega
 have:=key (l.take k) []
 rw[List.length_take] at this;unfold Np.dZ;simp at this;omega
theorem Jz(l:List (List UInt8)):∀ x∈Np.dZ l,x∈l:=by
 have key:∀ (r o:List (List UInt8)),∀ x∈r.foldl Np.oF o,x∈o\/x∈r:=by
  intro r
  induction r with
  | nil=>intro o x hx; exact .inl hx
  | cons c r ih=>
   intro o x hx;rcases ih _ x hx with h | h
   ·unfold Np.oF at h
    cases hg:o.getLast? with
    | none=>rw[hg] at h; simp at h; exact .inr (by simp[h])
    | some q=>
     rw[hg] at h; dsimp only at h;split at h
     ·exact .inl h
     ·rcases List.mem_append.1 h with h | h
      ·exact .inl h
      ·simp at h; exact .inr (by simp[h])
   ·exact .inr (mQ _ h)
 intro x hx;rcases key l [] x hx with h | h
 ·cases h
 ·exact h
theorem sO{x:List UInt8}(h:Np.aD x=true):x.length<=60:=by
 unfold Np.aD at h;split at h
 ·rename_i e; rw[e]; decide
 ·split at h
  ·cases h
  ·omega
theorem awJ(a:ByteArray)(v:Value)(l:List Np.Signed)(bV:l.length<=20000)(hv:∀ x∈l,Np.aD x.set.name=true)(w:World)(hd:SlR bC 5 w w.heap.size v l) :
 Calls prog 230 #[.agg #[.string a,v]] w (xw RTx 1 w (Np.dZ (Np.cK a.data.toList l))):=by
 have HD:=jq hd;obtain⟨A,c,rfl,aV,bi⟩:=ah hd;have HW:Hid (∀ o,Below w.heap.size w (w.alloc o)):=jq (λo=>(vQ _ w).alloc (bQ _) _);have ph:Hid (∀ x∈Np.cK a.data.toList l,Np.aD x=true):=jq (λx hx=>by
  unfold Np.cK at hx;obtain⟨y,hy,rfl⟩:=List.mem_map.1 hx;exact hv y (List.mem_filter.1 hy).1)
 clear hd hv;go_enter func230,ntmps230;go_wp2_with fail;refine (avX a _ l bV _ (HD.out.later aN bN (HW.out _))).mono ?_;rintro e w1 ⟨vc,rfl,J1,ap⟩;have bL:w.heap.size<w1.heap.size:=by have:=ap.size; simp at this; omega
 have ay:=jq ((HW.out _).trans (ap.mono (by simp)));clear ap;have js:(Np.cK a.data.toList l).length<=20000:=by
  unfold Np.cK;rw[List.length_map];exact yQ (List.length_filter_le _ _) bV
 generalize Np.cK a.data.toList l=cs at *;obtain⟨Ac,cc,rfl,tG,aXX⟩:=ah J1;have HC:=jq J1;clear J1;go_wp2_with fail;go_loopw [4,5] (λvo i wr=>∃ (k:Nat),k<=cs.length/\i = .int .i64 k/\Hid (Below w1.heap.size w1 wr)/\Hid (cE w1.heap.size wr vo (Np.dZ (cs.take k)))) (λ_ i _=>cs.length - (intOf i).toNat)
 case atStart=>exact⟨0,jQ _,rfl,jq (vQ _ _),jq ⟨by simp,.inl ⟨rfl,rfl⟩⟩⟩
 case round=>
  obtain⟨k,hk,rfl,HB,HO⟩:=hrel;have am:=HB.out.size;have aw:=jq (ay.out.trans (HB.out.mono (by omega)));have xX:Hid (∀ x∈Np.dZ (cs.take k),x.length<=140737488355328):=jq (λx hx=>by
   have:=sO (ph.out x (List.mem_of_mem_take (Jz _ x hx)))
   omega)
  have n7:Hid ((Np.dZ (cs.take k)).length<=20000):=jq (by have:=OR cs k; omega);by_cases aa:k<cs.length
  ·obtain⟨x,ac⟩:∃ x,cs[k]?=some x:=⟨_,aQ aa⟩;obtain⟨b,o,sn,rfl,bS,av,cA,f0⟩:=sM (HC.out.keep iL HB.out) ac;have UO:Hid (Np.aD x=true):=jq (ph.out x (gQ ac));have HT:Hid (Np.dZ (cs.take (k+1))=Np.oF (Np.dZ (cs.take k)) x):=jq (by
    obtain⟨hl,he⟩:=cQ.1 ac;rw[fQ hl,Np.OO,he])
   have aH:=jq av;have bH:(0:Int)<=(k:Int):=by omega
   have bG:(k:Int)<(cs.length:Int):=by omega
   have ap:b<wr.heap.size:=by omega
   have nD:∀ (g:bF wr) (p:Addr),p.block<wr.heap.size->g.w.cell? p=wr.cell? p:=λg p h=>g.cell p h;have Ha:=jq (HO.out.slr (by have:=n7.out; omega) xX.out);have T7:Hid (∀ y∈Np.dZ (cs.take k),Np.aD y=true):=jq (λy hy=>ph.out y (List.mem_of_mem_take (Jz _ y hy)));clear ac av;generalize Np.dZ (cs.take k)=out at *;obtain⟨Ao,co,rfl⟩:=HO.out.form;by_cases h0:out.length=0
   ·obtain rfl:out = []:=rQ h0;have k9:Hid (Np.dZ (cs.take (k+1)) = [] ++ [x]):=jq (by rw[HT.out]; rfl);clear h0;go_wp2_with fail;refine fe (by kernel_rfl) (by kernel_rfl) ?_
    repeat (go_big_quiet_step (fail))
    refine wpQuiet_nil ?_;rintro _ ⟨g,rfl⟩;have HG:=jq g.below;have gM:=g.size;have fg:g.w.cell? ⟨b,o+k,none⟩=some (.string sn):=(nD g _ ap).trans f0;have Hb:=jq (HO.out.keep g.below);generalize g.w=w2 at *;go_wp2_with (at_builtin; refine zu _ rfl _ _ rfl w1.heap.size _ [] rfl (Hb.out.alloc _) w2.heap.size sn.data.toList (by simp[go_sem]) (by simp[go_sem]) (by simp) (by simp; omega) ?_; intro v5 w5 kE aF; have H5:=jq (And.intro kE aF); clear kE aF);go_roundw
    case rel=>exact⟨k+1,by omega,by go_num,jq (((HB.out.trans (HG.out.mono (by omega))).alloc (by omega) _).trans H5.out.2),jq (by rw[k9.out,<-aH.out]; exact H5.out.1)⟩
    case measure=>simp[intOf] <;> omega
   ·obtain⟨n,hn⟩:∃ n,out.length=n+1:=⟨out.length - 1,by omega⟩;obtain⟨q,hq⟩:∃ q,out[n]?=some q:=⟨_,aQ (by omega)⟩;obtain⟨b2,o2,sq,rfl,yq,jx,a6Q,g0⟩:=sM Ha.out hq;have dB:out.getLast?=some q:=by rw[List.getLast?_eq_getElem?,hn]; exact hq
    have k9:Hid (Np.dZ (cs.take (k+1))=if Np.bp x q=true then out else out ++ [x]):=jq (by rw[HT.out,Np.oF,dB]);have MC:Hid (Np.aD q=true):=jq (T7.out q (gQ hq));obtain⟨bu,Jb⟩:∃ bu,Np.bp x q=bu:=⟨_,rfl⟩;have bT:∀ g:bF wr,Calls prog 181 #[.string sn,.string sq] g.w λe w'=>e = .returned (.bool bu)/\Below g.w.heap.size g.w w':=λg=>by
     have kG:q≠[]:=λe=>by have:=MC.out; rw[e] at this; exact absurd this (by decide)
     rw[<-Jb,<-Np.Cs kG,<-aH.out,<-jx];have s1:=sO UO.out;have s2:=sO MC.out;rw[<-aH.out,aT] at s1;rw[<-jx,aT] at s2;exact Fn sn sq (by omega) (by omega) _
    have jH:=jq bT;have zF:=jq Jb;obtain⟨N,hN⟩:∃ N,out.length=N:=⟨_,rfl⟩;have HN:=jq hN;have wN:((N:Int) == 0)=false:=by rw[beq_eq_false_iff_ne]; omega
    have ak:IntKind.i64.wrap ((N:Int) - 1)=(n:Int):=by rw[IntWalk.i64_in _ (by have:=n7.out; omega)]; omega
    have qE:(0:Int)<=(n:Int):=by omega
    have rU:(n:Int)<(N:Int):=by omega
    have Mb:Hid (cE w1.heap.size wr (.slice (some ⟨b2,o2,none⟩) N co) out):=jq (by rw[<-hN]; exact HO.out);rw[hN];clear hn hq jx dB bT Jb h0 hN
    cases bu with
    | true=>
     have zU:=jq (k9.out.trans (Qb zF.out));go_wp2_with fail;refine fe (by kernel_rfl) (by kernel_rfl) ?_
     repeat (go_big_quiet_step ((go_at_call 181; exact Calls.grow_of (jH.out _))))
     refine wpQuiet_nil ?_;rintro _ ⟨g,rfl⟩;go_wp2_with fail;go_roundw
     case rel=>exact⟨k+1,by omega,by go_num,jq (HB.out.trans (g.below.mono (by omega))),jq (by rw[zU.out]; exact Mb.out.keep g.below)⟩
     case measure=>simp[intOf] <;> omega
    | false=>
     have zU:=jq (k9.out.trans (Qc (by rw[zF.out]; simp)));go_wp2_with fail;refine fe (by kernel_rfl) (by kernel_rfl) ?_
     repeat (go_big_quiet_step ((go_at_call 181; exact Calls.grow_of (jH.out _))))
     refine wpQuiet_nil ?_;rintro _ ⟨g,rfl⟩;have HG:=jq g.below;have gM:=g.size;have fg:g.w.cell? ⟨b,o+k,none⟩=some (.string sn):=(nD g _ ap).trans f0;have Hb:=jq (Mb.out.keep g.below);clear nD;generalize g.w=w2 at *;go_wp2_with (at_builtin; refine zu _ rfl _ _ rfl w1.heap.size _ out rfl (Hb.out.alloc _) w2.heap.size sn.data.toList (by simp[go_sem]) (by simp[go_sem]) (by have:=n7.out; omega) (by simp; omega) ?_; intro v5 w5 kE aF; have H5:=jq (And.intro kE aF); clear kE aF);go_roundw
     case rel=>exact⟨k+1,by omega,by go_num,jq (((HB.out.trans (HG.out.mono (by omega))).alloc (by omega) _).trans H5.out.2),jq (by rw[zU.out,<-aH.out]; exact H5.out.1)⟩
     case measure=>simp[intOf] <;> omega
  ·have HE:Hid (cs.take k=cs):=jq (kQ (by omega));go_wp2_with fail;go_ret;refine⟨_,rfl,?_,aw.out⟩;have h1:=HO.out;have h2:=n7.out;have h3:=xX.out;rw[HE.out] at h1 h2 h3;exact h1.slr (by omega) h3
theorem Nk{a b c:List UInt8}(h1:Np.aI a b<=0)(h2:Np.aI b c<=0):Np.aI a c<=0:=by
 by_cases e1:Np.aI a b=0
 ·rw[Np.fd.zero _ _ e1]; exact h2
 ·by_cases e2:Np.aI b c=0
  ·rw[<-Np.fd.zero _ _ e2]; exact h1
  ·exact Int.le_of_lt (Np.fd.trans a b c (by omega) (by omega))
theorem VS{a b c:List UInt8}(h1:0<Np.aI a c)(h2:Np.aI a b<0):0<Np.aI b c:=by
 have h3:=Np.fd.anti' _ _ h1;have h4:=Np.fd.trans _ _ _ h3 h2;exact Np.fd.anti _ _ h4
theorem Fs{bs:List (List UInt8)}{n i:Nat}(hi:i<n):bs++List.replicate (n - i) []=bs ++ [[]]++List.replicate (n - (i+1)) []:=by
 rw[show n - i=(n - (i+1))+1 by omega,List.replicate_succ,List.append_assoc]; rfl
theorem Rc{bs:List (List UInt8)}{n i:Nat}{b:List UInt8}(hb:bs.length=i)(hi:i<n):(bs++List.replicate (n - i) []).set i b=bs ++ [b]++List.replicate (n - (i+1)) []:=by
 rw[show n - i=(n - (i+1))+1 by omega,List.replicate_succ,List.set_append_right _ _ (by omega),hb,Nat.sub_self,List.set_cons_zero,List.append_assoc]; rfl
def Fss(n0 Bs:Nat)(w1:World)(z:Np.Zone)(H:List (List UInt8))(vk vi:Value)(wr:World):Prop:=
 ∃ (i k:Nat) (bs:List (List UInt8)),i<=z.sets.length/\k<=H.length/\vi = .int .i64 i/\vk = .int .i64 k/\bs.length=i/\Hid (Below Bs w1 wr)/\Hid (fl wr Bs (bs++List.replicate (z.sets.length - i) []))/\Bs<wr.heap.size/\n0<=Bs/\
   Hid (∀ (j:Nat) (x:Np.Signed) (b:List UInt8),z.sets[j]?=some x->bs[j]?=some b->Np.jl (Np.cL z) x.set.name b)/\Hid (∀ (j:Nat) (y:List UInt8) (x:Np.Signed),j<k->H[j]?=some y->z.sets[i]?=some x->Np.aI y x.set.name<=0)
theorem Q0(a:ByteArray)(v:Value)(l:List Np.Signed)(bV:l.length<=20000)(ho:Np.InOrder ⟨a.data.toList,l⟩)(hv:∀ x∈l,Np.aD x.set.name=true)(w:World)(hd:SlR bC 5 w w.heap.size v l) :
 Calls prog 185 #[.agg #[.string a,v]] w (xw RTx 1 w (Np.dT ⟨a.data.toList,l⟩)):=by
 have HD:=jq hd;obtain⟨A,c,rfl,aV,bi⟩:=ah hd;have HW:Hid (∀ o,Below w.heap.size w (w.alloc o)):=jq (λo=>(vQ _ w).alloc (bQ _) _);have HO:=jq ho;have HV:=jq hv;have AE:Hid (∀ x∈Np.dZ (Np.cK a.data.toList l),Np.aD x=true):=jq (λx hx=>by
  have hx:=Jz _ x hx;unfold Np.cK at hx;obtain⟨y,hy,rfl⟩:=List.mem_map.1 hx;exact hv y (List.mem_filter.1 hy).1)
 have Mx:Hid (∀ (n:List UInt8) (k:Nat),k<=(Np.dZ (Np.cK a.data.toList l)).length->(∀ j x,j<k->(Np.dZ (Np.cK a.data.toList l))[j]?=some x->Np.aI x n<=0)->(∀ j x,k<=j->(Np.dZ (Np.cK a.data.toList l))[j]?=some x->0<Np.aI x n)->Np.jl (Np.cL ⟨a.data.toList,l⟩) n (Np.jE (Np.dZ (Np.cK a.data.toList l)) k n)):=jq (λn k hk h1 h2=>Np.avK ho hk h1 h2);have Uz:Hid ((Np.dZ (Np.cK a.data.toList l)).Pairwise λa b=>Np.aI a b<0):=jq (Np.OP ho).1.sorted;have hhl:(Np.dZ (Np.cK a.data.toList l)).length<=20000:=by
  have h1:=OR (Np.cK a.data.toList l) (Np.cK a.data.toList l).length;rw[List.take_length] at h1;have h2:(Np.cK a.data.toList l).length<=l.length:=by
   unfold Np.cK;rw[List.length_map];exact List.length_filter_le _ _
  omega
 clear hd ho;go_enter func185,ntmps185;go_wp2_with fail;refine (awJ a _ l bV hv _ (HD.out.later aN bN (HW.out _))).mono ?_;rintro e w1 ⟨vh,rfl,J2,ap⟩;have bL:w.heap.size<w1.heap.size:=by have:=ap.size; simp at this; omega
 have c1:w1.cell? ⟨w.heap.size,1,none⟩=some (.slice A l.length c):=by rw[ap.cell (by simp)]; go_simp
 have ay:=jq ((HW.out _).trans (ap.mono (by simp)));clear ap hv;generalize Np.dZ (Np.cK a.data.toList l)=H at *;obtain⟨Ah,ch,rfl,hch,aZQ⟩:=ah J2;have HH:=jq J2;clear J2;have gh:=Kr l.length bV;have HZ:Hid (∀ j,j<l.length->(madeCells #[Value.string ⟨#[]⟩] l.length)[j]?=some (.string ⟨#[]⟩)):=jq (λj hj=>Kq _ _ hj);generalize madeCells #[Value.string ⟨#[]⟩] l.length=Z at gh HZ;go_wp2_with fail;obtain⟨Bs,ox⟩:∃ Bs,w1.heap.size=Bs:=⟨_,rfl⟩;obtain⟨w2,aj⟩:∃ w2,w1.alloc (.cells Z 9)=w2:=⟨_,rfl⟩;have ab:Below Bs w1 w2:=by rw[<-aj,<-ox]; exact (vQ _ _).alloc (bQ _) _
 have aM:Bs<w2.heap.size:=by rw[<-aj]; simp; omega
 have jM:Hid (fl w2 Bs ([]++List.replicate (l.length - 0) [])):=jq (λj x hx=>by
  rw[List.nil_append,Nat.sub_zero,List.getElem?_replicate] at hx;split at hx
  ·rename_i hj
   cases hx
   refine⟨⟨#[]⟩,rfl,by decide,?_,?_⟩
   ·rw[<-aj,<-ox]; simp[go_sem]; exact HZ.out j hj
   ·rw[<-aj,<-ox]; simp[go_sem]
  ·cases hx)
 have al:=jq ab;rw[aj,ox];clear aj ab gh HZ;go_loopw [5,6] (λvk vi wr=>Fss w.heap.size Bs w1 ⟨a.data.toList,l⟩ H vk vi wr) (λ_ i _=>l.length - (intOf i).toNat)
 case atStart=>exact⟨0,0,[],jQ _,jQ _,rfl,rfl,rfl,al,jM,aM,by omega,jq (λj x b _ hb=>by simp at hb),jq (λj y x hj=>by omega)⟩
 case round=>
  obtain⟨i,k,bs,hi,hk,rfl,rfl,bZ,HB,HR,no,Pa,HT,HK⟩:=hrel;have hi:i<=l.length:=hi;have d1:wr.cell? ⟨w.heap.size,1,none⟩=some (.slice A l.length c):=(HB.out.cell (by dsimp only; omega)).trans c1;have aw:Hid (Below w.heap.size w wr):=jq (ay.out.trans (HB.out.mono (by omega)));have dz:w.heap.size<wr.heap.size:=by omega
  by_cases aa:i<l.length
  ·obtain⟨x,ac⟩:∃ x,l[i]?=some x:=⟨_,aQ aa⟩;obtain⟨b,o,c',sn,dv,sv,hA,bS,_,av,cA,aL,ax,f0,f1,f2,f3,f4⟩:=eE (HD.out.keep aN aw.out) ac
   cases hA
   have HX:=jq ac;have aH:=jq av;have ZE:sn.size<=60:=by have:=sO (HV.out x (gQ ac)); rw[<-av,aT] at this; exact this
   have qE:(0:Int)<=(i:Int):=by omega
   have rU:(i:Int)<(l.length:Int):=by omega
   have ap:b<wr.heap.size:=by omega
   have mW:Hid (∀ (j:Nat) (y:List UInt8),j<k->H[j]?=some y->Np.aI y sn.data.toList<=0):=jq (λj y hj hy=>by rw[av]; exact HK.out j y x hj hy ac);clear ac av aL ax f1 f2 f3 f4 HK;go_wp2_with fail;obtain⟨wo,rfl⟩:∃ wo,wo=wr:=⟨_,rfl⟩;go_loopw [5] (λvk wr=>∃ k:Nat,k<=H.length/\vk = .int .i64 k/\Hid (Below wo.heap.size wo wr)/\Hid (∀ (j:Nat) (y:List UInt8),j<k->H[j]?=some y->Np.aI y sn.data.toList<=0)) (λk _=>H.length - (intOf k).toNat)
   case atStart=>exact⟨k,hk,rfl,jq (vQ _ _),mW⟩
   case round=>
    obtain⟨k,hk,rfl,mj,zV⟩:=hrel;have um:=mj.out.size;have Sp:Hid (SlR RTx 1 wr w1.heap.size (.slice Ah H.length ch) H):=jq ((HH.out.keep iL (HB.out.mono (by omega))).keep iL (mj.out.mono (by omega)));by_cases lX:k<H.length
    ·obtain⟨y,cj⟩:∃ y,H[k]?=some y:=⟨_,aQ lX⟩;obtain⟨b2,o2,sy,rfl,yq,iZ,a6Z,g0⟩:=sM Sp.out cj;have a5Y:sy.size<=60:=by have:=sO (AE.out y (gQ cj)); rw[<-iZ,aT] at this; exact this
     have HY:=jq cj;have td:=jq iZ;have bH:(0:Int)<=(k:Int):=by omega
     have bG:(k:Int)<(H.length:Int):=by omega
     clear cj iZ;go_wp2_with fail;refine (KD sy sn (by omega) (by omega) _).mono ?_;rintro e w6 ⟨rfl,aU⟩;have ca:=jq aU;have il:=aU.size;clear aU;by_cases gw:Np.aI sy.data.toList sn.data.toList<=0
     ·have HN:Hid (∀ (j:Nat) (y:List UInt8),j<k+1->H[j]?=some y->Np.aI y sn.data.toList<=0):=jq (λj z hj hz=>by
       by_cases e:j=k
       ·subst e; rw[HY.out] at hz; cases hz; rw[<-td.out]; exact gw
       ·exact zV.out j z (by omega) hz)
      go_wp2_with fail;go_roundw
      case rel=>exact⟨k+1,by omega,by go_num,jq (mj.out.trans (ca.out.mono mj.out.size)),jq HN.out⟩
      case measure=>simp[intOf] <;> omega
     ·have nZ:Hid (∀ (j:Nat) (y:List UInt8),k<=j->H[j]?=some y->0<Np.aI y sn.data.toList):=jq (λj z hj hz=>by
       by_cases e:j=k
       ·subst e; rw[HY.out] at hz; cases hz; rw[<-td.out]; omega
       ·obtain⟨h1,e1⟩:=cQ.1 HY.out;obtain⟨h2,e2⟩:=cQ.1 hz
        have:=List.pairwise_iff_getElem.1 Uz.out k j h1 h2 (by omega)
        rw[e1,e2] at this;exact VS (by rw[<-td.out]; omega) this)
      have kY:Hid (∀ W',Below Bs w1 W'->Bs<W'.heap.size->fl W' Bs (bs ++ [Np.jE H k sn.data.toList]++List.replicate (l.length - (i+1)) [])->Fss w.heap.size Bs w1 ⟨a.data.toList,l⟩ H (.int .i64 k) (.int .i64 (i+1)) W'):=jq (λW' h1 h2 h3=>by
       refine⟨i+1,k,bs ++ [Np.jE H k sn.data.toList],by show i+1<=l.length; omega,hk,by go_num,rfl,by simp[bZ],jq h1,jq h3,h2,Pa,jq λj x' b' hx' hb'=>?_,jq λj y x' hj hy hx'=>?_⟩
       ·have hx':l[j]?=some x':=hx';by_cases e:j<i
        ·rw[List.getElem?_append_left (by omega)] at hb';exact HT.out j x' b' hx' hb'
        ·have BM:j=i:=by have:=(cQ.1 hb').1; simp at this; omega
         subst BM;rw[HX.out] at hx'; cases hx';rw[oQ (by omega),bZ,Nat.sub_self] at hb'
         cases hb'
         rw[<-aH.out];exact Mx.out _ k hk zV.out nZ.out
       ·obtain⟨q1,e1⟩:=cQ.1 HX.out;have hx':l[i+1]?=some x':=hx';obtain⟨q2,e2⟩:=cQ.1 hx';have h4:=HO.out.names (show i<i+1 by omega) q2;dsimp only at h4;rw[e1,e2,<-aH.out] at h4;exact Nk (zV.out j y hj hy) h4)
      have rC:=jq (mj.out.trans (ca.out.mono mj.out.size));have zG:Hid (Below Bs w1 w6):=jq (HB.out.trans (rC.out.mono (by omega)));have vK:Bs<w6.heap.size:=by have:=rC.out.size; omega
      have mY:Hid (fl w6 Bs (bs++List.replicate (l.length - i) [])):=jq (HR.out.keep rC.out (by omega));by_cases iY:k=0
      ·have ju:decide ((0:Int)<(k:Int))=false:=by simp; omega
       have jw:decide (0<k)=false:=by simp; omega
       have lN:Hid (Np.jE H k sn.data.toList = []):=jq (by unfold Np.jE; rw[Qc (by omega)]);clear iY;go_wp2_with fail;go_roundw
       case rel=>exact kY.out _ zG.out vK (by rw[lN.out,<-Fs aa]; exact mY.out)
       case measure=>simp[intOf] <;> omega
      ·obtain⟨m,mI⟩:∃ m,k=m+1:=⟨k - 1,by omega⟩;obtain⟨z,gM⟩:∃ z,H[m]?=some z:=⟨_,aQ (by omega)⟩;obtain⟨b3,o3,sz,DX,XV,lv,JV,g3⟩:=sM ((HH.out.keep iL (HB.out.mono (by omega))).keep iL (rC.out.mono (by omega))) gM;have ZG:sz.size<=60:=by have:=sO (AE.out z (gQ gM)); rw[<-lv,aT] at this; exact this
       have Cr:z≠[]:=λe=>by have:=AE.out z (gQ gM); rw[e] at this; exact absurd this (by decide)
       have GH:Hid (Np.inL (Np.eB sn.data.toList) (Np.eB sz.data.toList)=Np.bp sn.data.toList z):=jq (by rw[lv]; exact Np.Cs Cr);have lN:Hid (Np.jE H k sn.data.toList=if Np.bp sn.data.toList z=true then z else []):=jq (by unfold Np.jE; rw[mI,show m+1 - 1=m by omega,gM]; simp);have xX:=jq lv;have ju:decide ((0:Int)<(k:Int))=true:=by simp; omega
       have jw:decide (0<k)=true:=by simp; omega
       have ak:IntKind.i64.wrap ((k:Int) - 1)=(m:Int):=by rw[IntWalk.i64_in _ (by omega)]; omega
       have iH:(0:Int)<=(m:Int):=by omega
       have pD:(m:Int)<(H.length:Int):=by omega
       clear gM lv mI iY Cr;simp only[Option.some.injEq,Addr.mk.injEq,and_true] at DX; obtain⟨rfl,rfl⟩:=DX;go_wp2_with fail;refine (Fn sn sz (by omega) (by omega) _).mono ?_;rw[GH.out];rintro e w7 ⟨rfl,dY⟩;have dJ:=jq dY;have mL:=dY.size;clear dY;have zH:Hid (Below Bs w1 w7):=jq (zG.out.trans (dJ.out.mono (by omega)));have Bf:Bs<w7.heap.size:=by omega
       have vf:Hid (fl w7 Bs (bs++List.replicate (l.length - i) [])):=jq (mY.out.keep dJ.out (by omega));have g37:w7.cell? ⟨b2,o2+m,none⟩=some (.string sz):=(dJ.out.cell (by dsimp only; omega)).trans g3;obtain⟨s0,_,_,gz,nC⟩:=vf.out i [] (by rw[oQ (by omega),bZ,Nat.sub_self,List.getElem?_replicate,Qb (by omega)])
       cases hu:Np.bp sn.data.toList z with
       | true=>
        have gq:Hid (Np.jE H k sn.data.toList=sz.data.toList):=jq (by rw[lN.out,hu,Qb rfl,xX.out]);clear hu;go_wp2_with fail;go_roundw
        case rel=>exact kY.out _ (zH.out.setCell (by simp) _) (by simpa using Bf) (by rw[gq.out,<-Rc bZ aa]; exact vf.out.store (by rw[List.length_append,List.length_replicate]; omega) sz JV)
        case measure=>simp[intOf] <;> omega
       | false=>
        have gq:Hid (Np.jE H k sn.data.toList = []):=jq (by rw[lN.out,hu]; rfl);clear hu;go_wp2_with fail;go_roundw
        case rel=>exact kY.out _ zH.out Bf (by rw[gq.out,<-Fs aa]; exact vf.out)
        case measure=>simp[intOf] <;> omega
    ·have nZ:Hid (∀ (j:Nat) (y:List UInt8),k<=j->H[j]?=some y->0<Np.aI y sn.data.toList):=jq (λj z hj hz=>by have:=(cQ.1 hz).1; omega);have oG:decide ((k:Int)<(H.length:Int))=false:=by simp; omega
     have kY:Hid (∀ W',Below Bs w1 W'->Bs<W'.heap.size->fl W' Bs (bs ++ [Np.jE H k sn.data.toList]++List.replicate (l.length - (i+1)) [])->Fss w.heap.size Bs w1 ⟨a.data.toList,l⟩ H (.int .i64 k) (.int .i64 (i+1)) W'):=jq (λW' h1 h2 h3=>by
      refine⟨i+1,k,bs ++ [Np.jE H k sn.data.toList],by show i+1<=l.length; omega,hk,by go_num,rfl,by simp[bZ],jq h1,jq h3,h2,Pa,jq λj x' b' hx' hb'=>?_,jq λj y x' hj hy hx'=>?_⟩
      ·have hx':l[j]?=some x':=hx';by_cases e:j<i
       ·rw[List.getElem?_append_left (by omega)] at hb';exact HT.out j x' b' hx' hb'
       ·have BM:j=i:=by have:=(cQ.1 hb').1; simp at this; omega
        subst BM;rw[HX.out] at hx'; cases hx';rw[oQ (by omega),bZ,Nat.sub_self] at hb'
        cases hb'
        rw[<-aH.out];exact Mx.out _ k hk zV.out nZ.out
      ·obtain⟨q1,e1⟩:=cQ.1 HX.out;have hx':l[i+1]?=some x':=hx';obtain⟨q2,e2⟩:=cQ.1 hx';have h4:=HO.out.names (show i<i+1 by omega) q2;dsimp only at h4;rw[e1,e2,<-aH.out] at h4;exact Nk (zV.out j y hj hy) h4)
     have rC:=jq (mj.out);have zG:Hid (Below Bs w1 wr):=jq (HB.out.trans (rC.out.mono (by omega)));have vK:Bs<wr.heap.size:=by have:=rC.out.size; omega
     have mY:Hid (fl wr Bs (bs++List.replicate (l.length - i) [])):=jq (HR.out.keep rC.out (by omega));by_cases iY:k=0
     ·have ju:decide ((0:Int)<(k:Int))=false:=by simp; omega
      have jw:decide (0<k)=false:=by simp; omega
      have lN:Hid (Np.jE H k sn.data.toList = []):=jq (by unfold Np.jE; rw[Qc (by omega)]);clear iY;go_wp2_with fail;go_roundw
      case rel=>exact kY.out _ zG.out vK (by rw[lN.out,<-Fs aa]; exact mY.out)
      case measure=>simp[intOf] <;> omega
     ·obtain⟨m,mI⟩:∃ m,k=m+1:=⟨k - 1,by omega⟩;obtain⟨z,gM⟩:∃ z,H[m]?=some z:=⟨_,aQ (by omega)⟩;obtain⟨b3,o3,sz,DX,XV,lv,JV,g3⟩:=sM ((HH.out.keep iL (HB.out.mono (by omega))).keep iL (rC.out.mono (by omega))) gM;have ZG:sz.size<=60:=by have:=sO (AE.out z (gQ gM)); rw[<-lv,aT] at this; exact this
      have Cr:z≠[]:=λe=>by have:=AE.out z (gQ gM); rw[e] at this; exact absurd this (by decide)
      have GH:Hid (Np.inL (Np.eB sn.data.toList) (Np.eB sz.data.toList)=Np.bp sn.data.toList z):=jq (by rw[lv]; exact Np.Cs Cr);have lN:Hid (Np.jE H k sn.data.toList=if Np.bp sn.data.toList z=true then z else []):=jq (by unfold Np.jE; rw[mI,show m+1 - 1=m by omega,gM]; simp);have xX:=jq lv;have ju:decide ((0:Int)<(k:Int))=true:=by simp; omega
      have jw:decide (0<k)=true:=by simp; omega
      have ak:IntKind.i64.wrap ((k:Int) - 1)=(m:Int):=by rw[IntWalk.i64_in _ (by omega)]; omega
      have iH:(0:Int)<=(m:Int):=by omega
      have pD:(m:Int)<(H.length:Int):=by omega
      clear gM lv mI iY Cr;subst DX;go_wp2_with fail;refine (Fn sn sz (by omega) (by omega) _).mono ?_;rw[GH.out];rintro e w7 ⟨rfl,dY⟩;have dJ:=jq dY;have mL:=dY.size;clear dY;have zH:Hid (Below Bs w1 w7):=jq (zG.out.trans (dJ.out.mono (by omega)));have Bf:Bs<w7.heap.size:=by omega
      have vf:Hid (fl w7 Bs (bs++List.replicate (l.length - i) [])):=jq (mY.out.keep dJ.out (by omega));have g37:w7.cell? ⟨b3,o3+m,none⟩=some (.string sz):=(dJ.out.cell (by dsimp only; omega)).trans g3;obtain⟨s0,_,_,gz,nC⟩:=vf.out i [] (by rw[oQ (by omega),bZ,Nat.sub_self,List.getElem?_replicate,Qb (by omega)])
      cases hu:Np.bp sn.data.toList z with
      | true=>
       have gq:Hid (Np.jE H k sn.data.toList=sz.data.toList):=jq (by rw[lN.out,hu,Qb rfl,xX.out]);clear hu;go_wp2_with fail;go_roundw
       case rel=>exact kY.out _ (zH.out.setCell (by simp) _) (by simpa using Bf) (by rw[gq.out,<-Rc bZ aa]; exact vf.out.store (by rw[List.length_append,List.length_replicate]; omega) sz JV)
       case measure=>simp[intOf] <;> omega
      | false=>
       have gq:Hid (Np.jE H k sn.data.toList = []):=jq (by rw[lN.out,hu]; rfl);clear hu;go_wp2_with fail;go_roundw
       case rel=>exact kY.out _ zH.out Bf (by rw[gq.out,<-Fs aa]; exact vf.out)
       case measure=>simp[intOf] <;> omega
  ·have Jw:i=l.length:=by omega
   have HE:Hid (SlR RTx 1 wr wr.heap.size (.slice (some ⟨Bs,0,none⟩) l.length l.length) (Np.dT ⟨a.data.toList,l⟩)):=jq (by
    have h1:=HR.out;have e:l.length - i=0:=by omega
    dsimp only at h1;rw[e,List.replicate_zero,List.append_nil] at h1;have h2:=h1.slr no (by omega);have h3:=Np.Vr HO.out (B:=bs) (by rw[bZ]; exact Jw) HT.out;rw[<-h3];rw[bZ,Jw] at h2;exact h2)
   clear Jw;go_wp2_with fail;go_ret;exact⟨_,rfl,HE.out,aw.out⟩
theorem awZ(a:ByteArray)(v:Value)(l:List Np.Signed)(bV:l.length<=20000)(ho:Np.InOrder ⟨a.data.toList,l⟩)(hv:∀ x∈l,Np.aD x.set.name=true)(w:World)(hd:SlR bC 5 w w.heap.size v l) :
 Calls prog 115 #[.agg #[.string a,v]] w λe w'=>e = .returned (.bool (Np.yes (Np.pX l (Np.dT ⟨a.data.toList,l⟩))))/\Below w.heap.size w w':=by
 obtain⟨B,hB⟩:∃ B,Np.dT ⟨a.data.toList,l⟩=B:=⟨_,rfl⟩;have jV:B.length=l.length:=by rw[<-hB]; exact Np.tr _
 obtain⟨r,hr⟩:∃ r,Np.yes (Np.pX l (Np.dT ⟨a.data.toList,l⟩))=r:=⟨_,rfl⟩;rw[hr];rw[hB] at hr;have HR:=jq hr;have ed:=jq jV;have bI:=jq hB;have HD:=jq hd;have HO:=jq ho;have HV:=jq hv;obtain⟨A,c,rfl,aV,bi⟩:=ah hd;clear hr hd ho hv hB jV;have HW:Hid (∀ o,Below w.heap.size w (w.alloc o)):=jq (λo=>(vQ _ w).alloc (bQ _) _);go_enter func115,ntmps115;go_wp2_with fail;refine (Q0 a _ l bV HO.out HV.out _ (HD.out.later aN bN (HW.out _))).mono ?_;rintro e w1 ⟨bv,rfl,ie,ap⟩;have ep:w.heap.size<w1.heap.size:=by have:=ap.size; simp at this; omega
 have c1':w1.cell? ⟨w.heap.size,1,none⟩=some (.slice A l.length c):=by rw[ap.cell (by simp)]; go_simp
 have ay:=jq ((HW.out _).trans (ap.mono (by simp)));obtain⟨A2,c2,rfl,dG,dm⟩:=ah ie;rw[bI.out] at dG dm ie |-;rw[ed.out] at dG dm ie |-;have em:=jq ie;clear ap ie;go_wp2_with fail;go_loopw [4] (λi wr=>∃ k:Nat,k<=l.length/\i = .int .i64 k/\Hid (Below w1.heap.size w1 wr)/\Hid (∀ j x b,j<k->l[j]?=some x->B[j]?=some b->Np.kT x.set b)) (λi _=>l.length - (intOf i).toNat)
 case atStart=>exact⟨0,jQ _,rfl,jq (vQ _ _),jq (λj x b hj=>by omega)⟩
 case round=>
  obtain⟨k,hk,rfl,HB,HA⟩:=hrel;have am:=HB.out.size;have aw:=jq (ay.out.trans (HB.out.mono (by omega)));have d1:wr.cell? ⟨w.heap.size,1,none⟩=some (.slice A l.length c):=(HB.out.cell (by dsimp only; omega)).trans c1';by_cases aa:k<l.length
  ·obtain⟨x,ac⟩:∃ x,l[k]?=some x:=⟨_,aQ aa⟩;obtain⟨bb,eI⟩:∃ bb,B[k]?=some bb:=⟨_,aQ (by rw[ed.out]; omega)⟩;obtain⟨b,o,c',sn,dv,sv,hA,bS,_,av,cA,aL,ax,e0,e1,e2,e3,e4⟩:=eE (HD.out.keep aN aw.out) ac
   cases hA
   obtain⟨b2,o2,sb,rfl,yq,mK,JU,g0⟩:=sM (em.out.keep iL HB.out) eI;have HN:Hid (Np.kT x.set bb->∀ j x b,j<k+1->l[j]?=some x->B[j]?=some b->Np.kT x.set b):=jq (λh j x b hj hx hb=>by
    by_cases e:j=k
    ·subst e; rw[ac] at hx; rw[eI] at hb; cases hx; cases hb; exact h
    ·exact HA.out j x b (by omega) hx hb)
   have HF:Hid (¬ Np.kT x.set bb->r=false):=jq (λh=>by
    rw[<-HR.out]; exact Np.aJ λq=>h (q k _ _ ac eI))
   clear ac eI;obtain⟨Ad,cd,rfl,_,_⟩:=ah aL;obtain⟨As,cs,rfl,_,_⟩:=ah ax;have hcell:wr.cell? ⟨w.heap.size,1,none⟩=some (.slice (some ⟨b,o,none⟩) l.length c):=(HB.out.cell (by dsimp only; omega)).trans c1';have dz:w.heap.size<wr.heap.size:=by omega
   have ap:b<wr.heap.size:=by omega
   have ab:b2<wr.heap.size:=by omega
   have aY:Hid (∀ o,Below w1.heap.size w1 (wr.alloc o)):=jq (λo=>HB.out.alloc HB.out.size _);have oW:Hid (∀ o,Below w.heap.size w (wr.alloc o)):=jq (λo=>aw.out.alloc (by omega) _);have bH:(0:Int)<=(k:Int):=by omega
   have bG:(k:Int)<(l.length:Int):=by omega
   have aH:=jq av;have eO:=jq mK;obtain⟨ty,dK⟩:∃ ty,x.set.type=ty:=⟨_,rfl⟩;have fD:=jq dK;rw[dK] at e1;clear av mK aL ax dK e4;by_cases cN:bb = []
   ·obtain rfl:sb=⟨#[]⟩:=iM (by rw[eO.out,cN]);have bR:=jq (No (x:=x.set) cN);clear cN;by_cases h6:ty=6
    ·have HX:Hid (r=false):=jq (HF.out λh=>(bR.out.1 h) (fD.out.trans h6));subst h6;go_wp2_with fail;go_quiet (fail);obtain⟨w2,aj⟩:∃ w2,(wr.alloc (.cells #[.string sn,.int .i64 6,.int .i64 x.set.life,.slice Ad x.set.data.length cd] 26)).drewN nq=w2:=⟨_,rfl⟩;rw[aj];have cO:Below wr.heap.size wr w2:=by rw[<-aj]; exact below_drewN ((vQ _ _).alloc (bQ _) _) _
     have p1:w2.cell? ⟨wr.heap.size,1,none⟩=some (.int .i64 6):=by rw[<-aj]; simp[go_sem]
     have g02:w2.cell? ⟨b2,o2+k,none⟩=some (.string ⟨#[]⟩):=(cO.cell (by dsimp only; omega)).trans g0;have fh:=jq (HB.out.trans (cO.mono HB.out.size));have pi:=jq (aw.out.trans (cO.mono (by omega)));clear cO aj g0;go_wp2_with fail;go_ret;exact⟨ae HX.out.symm,pi.out⟩
    ·have HX:=jq (HN.out (bR.out.2 λh=>h6 (fD.out.symm.trans h)));have h6':(ty == 6)=false:=by simpa using h6
     clear h6;go_wp2_with fail;go_quiet (fail);obtain⟨w2,aj⟩:∃ w2,(wr.alloc (.cells #[.string sn,.int .i64 ty,.int .i64 x.set.life,.slice Ad x.set.data.length cd] 26)).drewN nq=w2:=⟨_,rfl⟩;rw[aj];have cO:Below wr.heap.size wr w2:=by rw[<-aj]; exact below_drewN ((vQ _ _).alloc (bQ _) _) _
     have p1:w2.cell? ⟨wr.heap.size,1,none⟩=some (.int .i64 ty):=by rw[<-aj]; simp[go_sem]
     have g02:w2.cell? ⟨b2,o2+k,none⟩=some (.string ⟨#[]⟩):=(cO.cell (by dsimp only; omega)).trans g0;have fh:=jq (HB.out.trans (cO.mono HB.out.size));have pi:=jq (aw.out.trans (cO.mono (by omega)));clear cO aj g0;go_wp2_with fail;go_roundw
     case rel=>exact⟨k+1,by omega,by go_num,jq fh.out,jq HX.out⟩
     case measure=>simp[intOf] <;> omega
   ·have BX:(sb.toList == [])=false:=by rw[dQ,eO.out]; simpa using cN
    by_cases jp:bb=x.set.name
    ·have Ja:(sn.toList == sb.toList)=true:=by rw[dQ,dQ,eO.out,aH.out]; simpa using jp.symm
     have bR:=jq (Nq (x:=x.set) cN jp);clear cN jp;by_cases ht:ty=2\/ty=6\/ty=8\/ty=1
     ·have HX:=jq (HN.out (bR.out.2 (by rw[fD.out]; exact ht)));rcases ht with rfl | rfl | rfl | rfl
      ·skip
       go_wp2_with fail;go_quiet (fail);obtain⟨w2,aj⟩:∃ w2,(wr.alloc (.cells #[.string sn,.int .i64 2,.int .i64 x.set.life,.slice Ad x.set.data.length cd] 26)).drewN nq=w2:=⟨_,rfl⟩;rw[aj];have cO:Below wr.heap.size wr w2:=by rw[<-aj]; exact below_drewN ((vQ _ _).alloc (bQ _) _) _
       have p1:w2.cell? ⟨wr.heap.size,1,none⟩=some (.int .i64 2):=by rw[<-aj]; simp[go_sem]
       have g02:w2.cell? ⟨b2,o2+k,none⟩=some (.string sb):=(cO.cell (by dsimp only; omega)).trans g0;have fh:=jq (HB.out.trans (cO.mono HB.out.size));have pi:=jq (aw.out.trans (cO.mono (by omega)));clear cO aj g0;go_wp2_with fail;go_roundw
       case rel=>exact⟨k+1,by omega,by go_num,jq fh.out,jq HX.out⟩
       case measure=>simp[intOf] <;> omega
      ·skip
       go_wp2_with fail;go_quiet (fail);obtain⟨w2,aj⟩:∃ w2,(wr.alloc (.cells #[.string sn,.int .i64 6,.int .i64 x.set.life,.slice Ad x.set.data.length cd] 26)).drewN nq=w2:=⟨_,rfl⟩;rw[aj];have cO:Below wr.heap.size wr w2:=by rw[<-aj]; exact below_drewN ((vQ _ _).alloc (bQ _) _) _
       have p1:w2.cell? ⟨wr.heap.size,1,none⟩=some (.int .i64 6):=by rw[<-aj]; simp[go_sem]
       have g02:w2.cell? ⟨b2,o2+k,none⟩=some (.string sb):=(cO.cell (by dsimp only; omega)).trans g0;have fh:=jq (HB.out.trans (cO.mono HB.out.size));have pi:=jq (aw.out.trans (cO.mono (by omega)));clear cO aj g0;go_wp2_with fail;go_roundw
       case rel=>exact⟨k+1,by omega,by go_num,jq fh.out,jq HX.out⟩
       case measure=>simp[intOf] <;> omega
      ·skip
       go_wp2_with fail;go_quiet (fail);obtain⟨w2,aj⟩:∃ w2,(wr.alloc (.cells #[.string sn,.int .i64 8,.int .i64 x.set.life,.slice Ad x.set.data.length cd] 26)).drewN nq=w2:=⟨_,rfl⟩;rw[aj];have cO:Below wr.heap.size wr w2:=by rw[<-aj]; exact below_drewN ((vQ _ _).alloc (bQ _) _) _
       have p1:w2.cell? ⟨wr.heap.size,1,none⟩=some (.int .i64 8):=by rw[<-aj]; simp[go_sem]
       have g02:w2.cell? ⟨b2,o2+k,none⟩=some (.string sb):=(cO.cell (by dsimp only; omega)).trans g0;have fh:=jq (HB.out.trans (cO.mono HB.out.size));have pi:=jq (aw.out.trans (cO.mono (by omega)));clear cO aj g0;go_wp2_with fail;go_roundw
       case rel=>exact⟨k+1,by omega,by go_num,jq fh.out,jq HX.out⟩
       case measure=>simp[intOf] <;> omega
      ·skip
       go_wp2_with fail;go_quiet (fail);obtain⟨w2,aj⟩:∃ w2,(wr.alloc (.cells #[.string sn,.int .i64 1,.int .i64 x.set.life,.slice Ad x.set.data.length cd] 26)).drewN nq=w2:=⟨_,rfl⟩;rw[aj];have cO:Below wr.heap.size wr w2:=by rw[<-aj]; exact below_drewN ((vQ _ _).alloc (bQ _) _) _
       have p1:w2.cell? ⟨wr.heap.size,1,none⟩=some (.int .i64 1):=by rw[<-aj]; simp[go_sem]
       have g02:w2.cell? ⟨b2,o2+k,none⟩=some (.string sb):=(cO.cell (by dsimp only; omega)).trans g0;have fh:=jq (HB.out.trans (cO.mono HB.out.size));have pi:=jq (aw.out.trans (cO.mono (by omega)));clear cO aj g0;go_wp2_with fail;go_roundw
       case rel=>exact⟨k+1,by omega,by go_num,jq fh.out,jq HX.out⟩
       case measure=>simp[intOf] <;> omega
     ·have HX:Hid (r=false):=jq (HF.out λh=>ht (by have:=bR.out.1 h; rwa [fD.out] at this));have t1:(ty != 2)=true:=by simp; omega
      have t2:(ty != 6)=true:=by simp; omega
      have t3:(ty != 8)=true:=by simp; omega
      have t4:(ty != 1)=true:=by simp; omega
      clear ht;go_wp2_with fail;go_quiet (fail);obtain⟨w2,aj⟩:∃ w2,(wr.alloc (.cells #[.string sn,.int .i64 ty,.int .i64 x.set.life,.slice Ad x.set.data.length cd] 26)).drewN nq=w2:=⟨_,rfl⟩;rw[aj];have cO:Below wr.heap.size wr w2:=by rw[<-aj]; exact below_drewN ((vQ _ _).alloc (bQ _) _) _
      have p1:w2.cell? ⟨wr.heap.size,1,none⟩=some (.int .i64 ty):=by rw[<-aj]; simp[go_sem]
      have g02:w2.cell? ⟨b2,o2+k,none⟩=some (.string sb):=(cO.cell (by dsimp only; omega)).trans g0;have fh:=jq (HB.out.trans (cO.mono HB.out.size));have pi:=jq (aw.out.trans (cO.mono (by omega)));clear cO aj g0;go_wp2_with fail;go_ret;exact⟨ae HX.out.symm,pi.out⟩
    ·have Ja:(sn.toList == sb.toList)=false:=by rw[dQ,dQ,eO.out,aH.out]; simpa using λe:x.set.name=bb=>jp e.symm
     have bR:=jq (Nr (x:=x.set) cN jp);clear cN jp;by_cases ht:ty=1
     ·have HX:=jq (HN.out (bR.out.2 (by rw[fD.out]; exact ht)));subst ht;go_wp2_with fail;go_quiet (fail);obtain⟨w2,aj⟩:∃ w2,(wr.alloc (.cells #[.string sn,.int .i64 1,.int .i64 x.set.life,.slice Ad x.set.data.length cd] 26)).drewN nq=w2:=⟨_,rfl⟩;rw[aj];have cO:Below wr.heap.size wr w2:=by rw[<-aj]; exact below_drewN ((vQ _ _).alloc (bQ _) _) _
      have p1:w2.cell? ⟨wr.heap.size,1,none⟩=some (.int .i64 1):=by rw[<-aj]; simp[go_sem]
      have g02:w2.cell? ⟨b2,o2+k,none⟩=some (.string sb):=(cO.cell (by dsimp only; omega)).trans g0;have fh:=jq (HB.out.trans (cO.mono HB.out.size));have pi:=jq (aw.out.trans (cO.mono (by omega)));clear cO aj g0;go_wp2_with fail;go_roundw
      case rel=>exact⟨k+1,by omega,by go_num,jq fh.out,jq HX.out⟩
      case measure=>simp[intOf] <;> omega
     ·have HX:Hid (r=false):=jq (HF.out λh=>ht (by have:=bR.out.1 h; rwa [fD.out] at this));have t4:(ty != 1)=true:=by simpa using ht
      clear ht;go_wp2_with fail;go_quiet (fail);obtain⟨w2,aj⟩:∃ w2,(wr.alloc (.cells #[.string sn,.int .i64 ty,.int .i64 x.set.life,.slice Ad x.set.data.length cd] 26)).drewN nq=w2:=⟨_,rfl⟩;rw[aj];have cO:Below wr.heap.size wr w2:=by rw[<-aj]; exact below_drewN ((vQ _ _).alloc (bQ _) _) _
      have p1:w2.cell? ⟨wr.heap.size,1,none⟩=some (.int .i64 ty):=by rw[<-aj]; simp[go_sem]
      have g02:w2.cell? ⟨b2,o2+k,none⟩=some (.string sb):=(cO.cell (by dsimp only; omega)).trans g0;have fh:=jq (HB.out.trans (cO.mono HB.out.size));have pi:=jq (aw.out.trans (cO.mono (by omega)));clear cO aj g0;go_wp2_with fail;go_ret;exact⟨ae HX.out.symm,pi.out⟩
  ·go_wp2_with fail;go_ret;refine⟨ae ?_,aw.out⟩;rw[<-HR.out];exact (Np.bM λi x b hx hb=>HA.out i x b (by have:=(cQ.1 hx).1; omega) hx hb).symm
end
end Go.Proofs.YtbfbobfbgabjiaaGreatDoor
