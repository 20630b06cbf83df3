/- Parts of the proof. No condition. -/
import Derived.Test.YtfnopgdcaanaiaaGreatDoorH15
import Derived.Test.YtfnopgdcaanaiaaGreatDoorH17
set_option linter.all false
set_option maxRecDepth 100000
set_option maxHeartbeats 8000000
namespace Go.Proofs.YtfnopgdcaanaiaaGreatDoor
open Go.Proofs.Tryz
section
open Go.RowKit
theorem KL(l:List (List UInt8)):∀ k,(Np.dB (l.take k)).length<=k:=by
 intro k;have key:∀ (r o:List (List UInt8)),(r.foldl Np.mA o).length<=o.length+r.length:=by
  intro r
  induction r with
  | nil=>intro o;simp
  | cons c r ih=>
   intro o;have h1:(Np.mA o c).length<=o.length+1:=by
    unfold Np.mA
    cases o.getLast? with
    | none=>simp
    | some q=>dsimp only;split <;> simp
   have:=ih (Np.mA o c)
   rw[List.foldl_cons,List.length_cons];omega
 have:=key (l.take k) []
 rw[List.length_take] at this;unfold Np.dB;simp at this;omega
theorem Fs(l:List (List UInt8)):∀ x∈Np.dB l,x∈l:=by
 have key:∀ (r o:List (List UInt8)),∀ x∈r.foldl Np.mA o,x∈o\/x∈r:=by
  intro r
  induction r with
  | nil=>intro o x hx;exact .inl hx
  | cons c r ih=>
   intro o x hx;rcases ih _ x hx with h | h
   ·unfold Np.mA at h
    cases hg:o.getLast? with
    | none=>rw[hg] at h;simp at h;exact .inr (by simp[h])
    | some q=>
     rw[hg] at h;dsimp only at h;split at h
     ·exact .inl h
     ·rcases List.mem_append.1 h with h | h
      ·exact .inl h
      ·simp at h;exact .inr (by simp[h])
   ·exact .inr (mQ _ h)
 intro x hx;rcases key l [] x hx with h | h
 ·cases h
 ·exact h
theorem qk{x:List UInt8}(h:Np.aC x=true):x.length<=60:=by
 unfold Np.aC at h;split at h
 ·rename_i e;rw[e];decide
 ·split at h
  ·cases h
  ·omega
theorem X5(a:ByteArray)(v:Value)(l:List Np.Signed)(bI:l.length<=20000)(hv:∀ x∈l,Np.aC x.set.name=true)(w:World)(hd:SlR bh 5 w w.heap.size v l) :
 Calls prog 305 #[.agg #[.string a,v]] w (tY RTx 1 w (Np.dB (Np.bY a.data.toList l))):=by
 have HD:=jq hd;obtain⟨A,c,rfl,bw,bT⟩:=al hd;have HW:Hid (∀ o,Below w.heap.size w (w.alloc o)):=jq (λo=>(vQ _ w).alloc (bQ _) _);have sE:Hid (∀ x∈Np.bY a.data.toList l,Np.aC x=true):=jq (λx hx=>by
  unfold Np.bY at hx;obtain⟨y,hy,rfl⟩:=List.mem_map.1 hx;exact hv y (List.mem_filter.1 hy).1)
 clear hd hv;go_enter func305,ntmps305;go_wp2_with fail;refine (XY a _ l bI _ (HD.out.later aX cj (HW.out _))).mono ?_;rintro e w1 ⟨vc,rfl,FW,az⟩;have bj:w.heap.size<w1.heap.size:=by have:=az.size;simp at this;omega
 have aq:=jq ((HW.out _).trans (az.mono (by simp)));clear az;have kB:(Np.bY a.data.toList l).length<=20000:=by
  unfold Np.bY;rw[List.length_map];exact yQ (List.length_filter_le _ _) bI
 generalize Np.bY a.data.toList l=cs at *;obtain⟨Ac,cc,rfl,qV,afY⟩:=al FW;have HC:=jq FW;clear FW;go_wp2_with fail;go_loopw [4,5] (λvo i wr=>∃ (k:Nat),k<=cs.length/\i = .int .i64 k/\Hid (Below w1.heap.size w1 wr)/\Hid (bU w1.heap.size wr vo (Np.dB (cs.take k)))) (λ_ i _=>cs.length - (intOf i).toNat)
 case atStart=>exact⟨0,jQ _,rfl,jq (vQ _ _),jq ⟨by simp,.inl ⟨rfl,rfl⟩⟩⟩
 case round=>
  obtain⟨k,hk,rfl,HB,HO⟩:=hrel;have an:=HB.out.size;have aw:=jq (aq.out.trans (HB.out.mono (by omega)));have uq:Hid (∀ x∈Np.dB (cs.take k),x.length<=140737488355328):=jq (λx hx=>by
   have:=qk (sE.out x (List.mem_of_mem_take (Fs _ x hx)))
   omega)
  have kl:Hid ((Np.dB (cs.take k)).length<=20000):=jq (by have:=KL cs k;omega);by_cases aa:k<cs.length
  ·obtain⟨x,ab⟩:∃ x,cs[k]?=some x:=⟨_,aQ aa⟩;obtain⟨b,o,sn,rfl,bJ,ay,cw,f0⟩:=oT (HC.out.keep mc HB.out) ab;have QB:Hid (Np.aC x=true):=jq (sE.out x (gQ ab));have HT:Hid (Np.dB (cs.take (k+1))=Np.mA (Np.dB (cs.take k)) x):=jq (by
    obtain⟨hl,he⟩:=cQ.1 ab;rw[fQ hl,Np.KI,he])
   have aL:=jq ay;have bO:(0:Int)<=(k:Int):=by omega
   have bM:(k:Int)<(cs.length:Int):=by omega
   have az:b<wr.heap.size:=by omega
   have k9:∀ (g:bq wr) (p:Addr),p.block<wr.heap.size->g.w.cell? p=wr.cell? p:=λg p h=>g.cell p h;have DN:=jq (HO.out.slr (by have:=kl.out;omega) uq.out);have PW:Hid (∀ y∈Np.dB (cs.take k),Np.aC y=true):=jq (λy hy=>sE.out y (List.mem_of_mem_take (Fs _ y hy)));clear ab ay;generalize Np.dB (cs.take k)=out at *;obtain⟨Ao,co,rfl⟩:=HO.out.form;by_cases h0:out.length=0
   ·obtain rfl:out = []:=rQ h0;have jN:Hid (Np.dB (cs.take (k+1)) = [] ++ [x]):=jq (by rw[HT.out];rfl);clear h0;go_wp2_with fail;refine fG (by kernel_rfl) (by kernel_rfl) ?_
    repeat (go_big_quiet_step (fail))
    refine wpQuiet_nil ?_;rintro _ ⟨g,rfl⟩;have HG:=jq g.below;have gU:=g.size;have fg:g.w.cell? ⟨b,o+k,none⟩=some (.string sn):=(k9 g _ az).trans f0;have DO:=jq (HO.out.keep g.below);generalize g.w=w2 at *;go_wp2_with (at_builtin;refine vT _ rfl _ _ rfl w1.heap.size _ [] rfl (DO.out.alloc _) w2.heap.size sn.data.toList (by simp[go_sem]) (by simp[go_sem]) (by simp) (by simp;omega) ?_;intro v5 w5 fZ aI;have H5:=jq (And.intro fZ aI);clear fZ aI);go_roundw
    case rel=>exact⟨k+1,by omega,by go_num,jq (((HB.out.trans (HG.out.mono (by omega))).alloc (by omega) _).trans H5.out.2),jq (by rw[jN.out,<-aL.out];exact H5.out.1)⟩
    case measure=>simp[intOf] <;> omega
   ·obtain⟨n,hn⟩:∃ n,out.length=n+1:=⟨out.length - 1,by omega⟩;obtain⟨q,hq⟩:∃ q,out[n]?=some q:=⟨_,aQ (by omega)⟩;obtain⟨b2,o2,sq,rfl,uN,jE,aoQ,g0⟩:=oT DN.out hq;have ip:out.getLast?=some q:=by rw[List.getLast?_eq_getElem?,hn];exact hq
    have jN:Hid (Np.dB (cs.take (k+1))=if Np.bg x q=true then out else out ++ [x]):=jq (by rw[HT.out,Np.mA,ip]);have IY:Hid (Np.aC q=true):=jq (PW.out q (gQ hq));obtain⟨bu,Fb⟩:∃ bu,Np.bg x q=bu:=⟨_,rfl⟩;have cC:∀ g:bq wr,Calls prog 222 #[.string sn,.string sq] g.w λe w'=>e = .returned (.bool bu)/\Below g.w.heap.size g.w w':=λg=>by
     have jD:q≠[]:=λe=>by have:=IY.out;rw[e] at this;exact absurd this (by decide)
     rw[<-Fb,<-Np.zg jD,<-aL.out,<-jE];have s1:=qk QB.out;have s2:=qk IY.out;rw[<-aL.out,aU] at s1;rw[<-jE,aU] at s2;exact Cn sn sq (by omega) (by omega) _
    have mf:=jq cC;have ua:=jq Fb;obtain⟨N,hN⟩:∃ N,out.length=N:=⟨_,rfl⟩;have HN:=jq hN;have tu:((N:Int) == 0)=false:=by rw[beq_eq_false_iff_ne];omega
    have ah:IntKind.i64.wrap ((N:Int) - 1)=(n:Int):=by rw[IntWalk.i64_in _ (by have:=kl.out;omega)];omega
    have my:(0:Int)<=(n:Int):=by omega
    have pF:(n:Int)<(N:Int):=by omega
    have Is:Hid (bU w1.heap.size wr (.slice (some ⟨b2,o2,none⟩) N co) out):=jq (by rw[<-hN];exact HO.out);rw[hN];clear hn hq jE ip cC Fb h0 hN
    cases bu with
    | true=>
     have wI:=jq (jN.out.trans (Qb ua.out));go_wp2_with fail;refine fG (by kernel_rfl) (by kernel_rfl) ?_
     repeat (go_big_quiet_step ((go_at_call 222;exact Calls.grow_of (mf.out _))))
     refine wpQuiet_nil ?_;rintro _ ⟨g,rfl⟩;go_wp2_with fail;go_roundw
     case rel=>exact⟨k+1,by omega,by go_num,jq (HB.out.trans (g.below.mono (by omega))),jq (by rw[wI.out];exact Is.out.keep g.below)⟩
     case measure=>simp[intOf] <;> omega
    | false=>
     have wI:=jq (jN.out.trans (Qc (by rw[ua.out];simp)));go_wp2_with fail;refine fG (by kernel_rfl) (by kernel_rfl) ?_
     repeat (go_big_quiet_step ((go_at_call 222;exact Calls.grow_of (mf.out _))))
     refine wpQuiet_nil ?_;rintro _ ⟨g,rfl⟩;have HG:=jq g.below;have gU:=g.size;have fg:g.w.cell? ⟨b,o+k,none⟩=some (.string sn):=(k9 g _ az).trans f0;have DO:=jq (Is.out.keep g.below);clear k9;generalize g.w=w2 at *;go_wp2_with (at_builtin;refine vT _ rfl _ _ rfl w1.heap.size _ out rfl (DO.out.alloc _) w2.heap.size sn.data.toList (by simp[go_sem]) (by simp[go_sem]) (by have:=kl.out;omega) (by simp;omega) ?_;intro v5 w5 fZ aI;have H5:=jq (And.intro fZ aI);clear fZ aI);go_roundw
     case rel=>exact⟨k+1,by omega,by go_num,jq (((HB.out.trans (HG.out.mono (by omega))).alloc (by omega) _).trans H5.out.2),jq (by rw[wI.out,<-aL.out];exact H5.out.1)⟩
     case measure=>simp[intOf] <;> omega
  ·have HE:Hid (cs.take k=cs):=jq (kQ (by omega));go_wp2_with fail;go_ret;refine⟨_,rfl,?_,aw.out⟩;have h1:=HO.out;have h2:=kl.out;have h3:=uq.out;rw[HE.out] at h1 h2 h3;exact h1.slr (by omega) h3
theorem JC{a b c:List UInt8}(h1:Np.aD a b<=0)(h2:Np.aD b c<=0):Np.aD a c<=0:=by
 by_cases e1:Np.aD a b=0
 ·rw[Np.er.zero _ _ e1];exact h2
 ·by_cases e2:Np.aD b c=0
  ·rw[<-Np.er.zero _ _ e2];exact h1
  ·exact Int.le_of_lt (Np.er.trans a b c (by omega) (by omega))
theorem RJ{a b c:List UInt8}(h1:0<Np.aD a c)(h2:Np.aD a b<0):0<Np.aD b c:=by
 have h3:=Np.er.anti' _ _ h1;have h4:=Np.er.trans _ _ _ h3 h2;exact Np.er.anti _ _ h4
theorem Cs{bs:List (List UInt8)}{n i:Nat}(hi:i<n):bs++List.replicate (n - i) []=bs ++ [[]]++List.replicate (n - (i+1)) []:=by
 rw[show n - i=(n - (i+1))+1 by omega,List.replicate_succ,List.append_assoc];rfl
theorem Nl{bs:List (List UInt8)}{n i:Nat}{b:List UInt8}(hb:bs.length=i)(hi:i<n):(bs++List.replicate (n - i) []).set i b=bs ++ [b]++List.replicate (n - (i+1)) []:=by
 rw[show n - i=(n - (i+1))+1 by omega,List.replicate_succ,List.set_append_right _ _ (by omega),hb,Nat.sub_self,List.set_cons_zero,List.append_assoc];rfl
def CN(n0 Bs:Nat)(w1:World)(z:Np.Zone)(H:List (List UInt8))(vk vi:Value)(wr:World):Prop:=
 ∃ (i k:Nat) (bs:List (List UInt8)),i<=z.sets.length/\k<=H.length/\vi = .int .i64 i/\vk = .int .i64 k/\bs.length=i/\Hid (Below Bs w1 wr)/\Hid (eD wr Bs (bs++List.replicate (z.sets.length - i) []))/\Bs<wr.heap.size/\n0<=Bs/\
   Hid (∀ (j:Nat) (x:Np.Signed) (b:List UInt8),z.sets[j]?=some x->bs[j]?=some b->Np.ig (Np.bZ z) x.set.name b)/\Hid (∀ (j:Nat) (y:List UInt8) (x:Np.Signed),j<k->H[j]?=some y->z.sets[i]?=some x->Np.aD y x.set.name<=0)
theorem M9(a:ByteArray)(v:Value)(l:List Np.Signed)(bI:l.length<=20000)(ho:Np.InOrder ⟨a.data.toList,l⟩)(hv:∀ x∈l,Np.aC x.set.name=true)(w:World)(hd:SlR bh 5 w w.heap.size v l) :
 Calls prog 237 #[.agg #[.string a,v]] w (tY RTx 1 w (Np.dl ⟨a.data.toList,l⟩)):=by
 have HD:=jq hd;obtain⟨A,c,rfl,bw,bT⟩:=al hd;have HW:Hid (∀ o,Below w.heap.size w (w.alloc o)):=jq (λo=>(vQ _ w).alloc (bQ _) _);have HO:=jq ho;have HV:=jq hv;have eX:Hid (∀ x∈Np.dB (Np.bY a.data.toList l),Np.aC x=true):=jq (λx hx=>by
  have hx:=Fs _ x hx;unfold Np.bY at hx;obtain⟨y,hy,rfl⟩:=List.mem_map.1 hx;exact hv y (List.mem_filter.1 hy).1)
 have IS:Hid (∀ (n:List UInt8) (k:Nat),k<=(Np.dB (Np.bY a.data.toList l)).length->(∀ j x,j<k->(Np.dB (Np.bY a.data.toList l))[j]?=some x->Np.aD x n<=0)->(∀ j x,k<=j->(Np.dB (Np.bY a.data.toList l))[j]?=some x->0<Np.aD x n)->Np.ig (Np.bZ ⟨a.data.toList,l⟩) n (Np.iu (Np.dB (Np.bY a.data.toList l)) k n)):=jq (λn k hk h1 h2=>Np.XX ho hk h1 h2);have Qr:Hid ((Np.dB (Np.bY a.data.toList l)).Pairwise λa b=>Np.aD a b<0):=jq (Np.KJ ho).1.sorted;have hhl:(Np.dB (Np.bY a.data.toList l)).length<=20000:=by
  have h1:=KL (Np.bY a.data.toList l) (Np.bY a.data.toList l).length;rw[List.take_length] at h1;have h2:(Np.bY a.data.toList l).length<=l.length:=by
   unfold Np.bY;rw[List.length_map];exact List.length_filter_le _ _
  omega
 clear hd ho;go_enter func237,ntmps237;go_wp2_with fail;refine (X5 a _ l bI hv _ (HD.out.later aX cj (HW.out _))).mono ?_;rintro e w1 ⟨vh,rfl,FX,az⟩;have bj:w.heap.size<w1.heap.size:=by have:=az.size;simp at this;omega
 have c1:w1.cell? ⟨w.heap.size,1,none⟩=some (.slice A l.length c):=by rw[az.cell (by simp)];go_simp
 have aq:=jq ((HW.out _).trans (az.mono (by simp)));clear az hv;generalize Np.dB (Np.bY a.data.toList l)=H at *;obtain⟨Ah,ch,rfl,hch,ahQ⟩:=al FX;have HH:=jq FX;clear FX;have fC:=Gk l.length bI;have HZ:Hid (∀ j,j<l.length->(madeCells #[Value.string ⟨#[]⟩] l.length)[j]?=some (.string ⟨#[]⟩)):=jq (λj hj=>Gj _ _ hj);generalize madeCells #[Value.string ⟨#[]⟩] l.length=Z at fC HZ;go_wp2_with fail;obtain⟨Bs,nn⟩:∃ Bs,w1.heap.size=Bs:=⟨_,rfl⟩;obtain⟨w2,ai⟩:∃ w2,w1.alloc (.cells Z 9)=w2:=⟨_,rfl⟩;have ac:Below Bs w1 w2:=by rw[<-ai,<-nn];exact (vQ _ _).alloc (bQ _) _
 have aJ:Bs<w2.heap.size:=by rw[<-ai];simp;omega
 have wR:Hid (eD w2 Bs ([]++List.replicate (l.length - 0) [])):=jq (λj x hx=>by
  rw[List.nil_append,Nat.sub_zero,List.getElem?_replicate] at hx;split at hx
  ·rename_i hj
   cases hx
   refine⟨⟨#[]⟩,rfl,by decide,?_,?_⟩
   ·rw[<-ai,<-nn];simp[go_sem];exact HZ.out j hj
   ·rw[<-ai,<-nn];simp[go_sem]
  ·cases hx)
 have aj:=jq ac;rw[ai,nn];clear ai ac fC HZ;go_loopw [5,6] (λvk vi wr=>CN w.heap.size Bs w1 ⟨a.data.toList,l⟩ H vk vi wr) (λ_ i _=>l.length - (intOf i).toNat)
 case atStart=>exact⟨0,0,[],jQ _,jQ _,rfl,rfl,rfl,aj,wR,aJ,by omega,jq (λj x b _ hb=>by simp at hb),jq (λj y x hj=>by omega)⟩
 case round=>
  obtain⟨i,k,bs,hi,hk,rfl,rfl,bG,HB,HR,sX,Lb,HT,HK⟩:=hrel;have hi:i<=l.length:=hi;have d1:wr.cell? ⟨w.heap.size,1,none⟩=some (.slice A l.length c):=(HB.out.cell (by dsimp only;omega)).trans c1;have aw:Hid (Below w.heap.size w wr):=jq (aq.out.trans (HB.out.mono (by omega)));have cZ:w.heap.size<wr.heap.size:=by omega
  by_cases aa:i<l.length
  ·obtain⟨x,ab⟩:∃ x,l[i]?=some x:=⟨_,aQ aa⟩;obtain⟨b,o,c',sn,dv,sv,hA,bJ,_,ay,cw,aW,aM,f0,f1,f2,f3,f4⟩:=eq (HD.out.keep aX aw.out) ab
   cases hA
   have HX:=jq ab;have aL:=jq ay;have U4:sn.size<=60:=by have:=qk (HV.out x (gQ ab));rw[<-ay,aU] at this;exact this
   have my:(0:Int)<=(i:Int):=by omega
   have pF:(i:Int)<(l.length:Int):=by omega
   have az:b<wr.heap.size:=by omega
   have nY:Hid (∀ (j:Nat) (y:List UInt8),j<k->H[j]?=some y->Np.aD y sn.data.toList<=0):=jq (λj y hj hy=>by rw[ay];exact HK.out j y x hj hy ab);clear ab ay aW aM f1 f2 f3 f4 HK;go_wp2_with fail;obtain⟨wo,rfl⟩:∃ wo,wo=wr:=⟨_,rfl⟩;go_loopw [5] (λvk wr=>∃ k:Nat,k<=H.length/\vk = .int .i64 k/\Hid (Below wo.heap.size wo wr)/\Hid (∀ (j:Nat) (y:List UInt8),j<k->H[j]?=some y->Np.aD y sn.data.toList<=0)) (λk _=>H.length - (intOf k).toNat)
   case atStart=>exact⟨k,hk,rfl,jq (vQ _ _),nY⟩
   case round=>
    obtain⟨k,hk,rfl,rW,wJ⟩:=hrel;have rG:=rW.out.size;have OR:Hid (SlR RTx 1 wr w1.heap.size (.slice Ah H.length ch) H):=jq ((HH.out.keep mc (HB.out.mono (by omega))).keep mc (rW.out.mono (by omega)));by_cases lh:k<H.length
    ·obtain⟨y,eH⟩:∃ y,H[k]?=some y:=⟨_,aQ lh⟩;obtain⟨b2,o2,sy,rfl,uN,eU,aoZ,g0⟩:=oT OR.out eH;have anY:sy.size<=60:=by have:=qk (eX.out y (gQ eH));rw[<-eU,aU] at this;exact this
     have HY:=jq eH;have mj:=jq eU;have bO:(0:Int)<=(k:Int):=by omega
     have bM:(k:Int)<(H.length:Int):=by omega
     clear eH eU;go_wp2_with fail;refine (Gw sy sn (by omega) (by omega) _).mono ?_;rintro e w6 ⟨rfl,aT⟩;have dg:=jq aT;have gm:=aT.size;clear aT;by_cases fM:Np.aD sy.data.toList sn.data.toList<=0
     ·have HN:Hid (∀ (j:Nat) (y:List UInt8),j<k+1->H[j]?=some y->Np.aD y sn.data.toList<=0):=jq (λj z hj hz=>by
       by_cases e:j=k
       ·subst e;rw[HY.out] at hz;cases hz;rw[<-mj.out];exact fM
       ·exact wJ.out j z (by omega) hz)
      go_wp2_with fail;go_roundw
      case rel=>exact⟨k+1,by omega,by go_num,jq (rW.out.trans (dg.out.mono rW.out.size)),jq HN.out⟩
      case measure=>simp[intOf] <;> omega
     ·have qs:Hid (∀ (j:Nat) (y:List UInt8),k<=j->H[j]?=some y->0<Np.aD y sn.data.toList):=jq (λj z hj hz=>by
       by_cases e:j=k
       ·subst e;rw[HY.out] at hz;cases hz;rw[<-mj.out];omega
       ·obtain⟨h1,e1⟩:=cQ.1 HY.out;obtain⟨h2,e2⟩:=cQ.1 hz
        have:=List.pairwise_iff_getElem.1 Qr.out k j h1 h2 (by omega)
        rw[e1,e2] at this;exact RJ (by rw[<-mj.out];omega) this)
      have kP:Hid (∀ W',Below Bs w1 W'->Bs<W'.heap.size->eD W' Bs (bs ++ [Np.iu H k sn.data.toList]++List.replicate (l.length - (i+1)) [])->CN w.heap.size Bs w1 ⟨a.data.toList,l⟩ H (.int .i64 k) (.int .i64 (i+1)) W'):=jq (λW' h1 h2 h3=>by
       refine⟨i+1,k,bs ++ [Np.iu H k sn.data.toList],by show i+1<=l.length;omega,hk,by go_num,rfl,by simp[bG],jq h1,jq h3,h2,Lb,jq λj x' b' hx' hb'=>?_,jq λj y x' hj hy hx'=>?_⟩
       ·have hx':l[j]?=some x':=hx';by_cases e:j<i
        ·rw[List.getElem?_append_left (by omega)] at hb';exact HT.out j x' b' hx' hb'
        ·have lc:j=i:=by have:=(cQ.1 hb').1;simp at this;omega
         subst lc;rw[HX.out] at hx';cases hx';rw[oQ (by omega),bG,Nat.sub_self] at hb'
         cases hb'
         rw[<-aL.out];exact IS.out _ k hk wJ.out qs.out
       ·obtain⟨q1,e1⟩:=cQ.1 HX.out;have hx':l[i+1]?=some x':=hx';obtain⟨q2,e2⟩:=cQ.1 hx';have h4:=HO.out.names (show i<i+1 by omega) q2;dsimp only at h4;rw[e1,e2,<-aL.out] at h4;exact JC (wJ.out j y hj hy) h4)
      have pi:=jq (rW.out.trans (dg.out.mono rW.out.size));have wk:Hid (Below Bs w1 w6):=jq (HB.out.trans (pi.out.mono (by omega)));have xP:Bs<w6.heap.size:=by have:=pi.out.size;omega
      have lF:Hid (eD w6 Bs (bs++List.replicate (l.length - i) [])):=jq (HR.out.keep pi.out (by omega));by_cases gV:k=0
      ·have jC:decide ((0:Int)<(k:Int))=false:=by simp;omega
       have iT:decide (0<k)=false:=by simp;omega
       have kU:Hid (Np.iu H k sn.data.toList = []):=jq (by unfold Np.iu;rw[Qc (by omega)]);clear gV;go_wp2_with fail;go_roundw
       case rel=>exact kP.out _ wk.out xP (by rw[kU.out,<-Cs aa];exact lF.out)
       case measure=>simp[intOf] <;> omega
      ·obtain⟨m,li⟩:∃ m,k=m+1:=⟨k - 1,by omega⟩;obtain⟨z,gU⟩:∃ z,H[m]?=some z:=⟨_,aQ (by omega)⟩;obtain⟨b3,o3,sz,sW,Kl,j9,FR,g3⟩:=oT ((HH.out.keep mc (HB.out.mono (by omega))).keep mc (pi.out.mono (by omega))) gU;have U8:sz.size<=60:=by have:=qk (eX.out z (gQ gU));rw[<-j9,aU] at this;exact this
       have ze:z≠[]:=λe=>by have:=eX.out z (gQ gU);rw[e] at this;exact absurd this (by decide)
       have Ds:Hid (Np.inL (Np.dO sn.data.toList) (Np.dO sz.data.toList)=Np.bg sn.data.toList z):=jq (by rw[j9];exact Np.zg ze);have kU:Hid (Np.iu H k sn.data.toList=if Np.bg sn.data.toList z=true then z else []):=jq (by unfold Np.iu;rw[li,show m+1 - 1=m by omega,gU];simp);have uq:=jq j9;have jC:decide ((0:Int)<(k:Int))=true:=by simp;omega
       have iT:decide (0<k)=true:=by simp;omega
       have ah:IntKind.i64.wrap ((k:Int) - 1)=(m:Int):=by rw[IntWalk.i64_in _ (by omega)];omega
       have iP:(0:Int)<=(m:Int):=by omega
       have rc:(m:Int)<(H.length:Int):=by omega
       clear gU j9 li gV ze;simp only[Option.some.injEq,Addr.mk.injEq,and_true] at sW;obtain⟨rfl,rfl⟩:=sW;go_wp2_with fail;refine (Cn sn sz (by omega) (by omega) _).mono ?_;rw[Ds.out];rintro e w7 ⟨rfl,fz⟩;have eO:=jq fz;have oI:=fz.size;clear fz;have wl:Hid (Below Bs w1 w7):=jq (wk.out.trans (eO.out.mono (by omega)));have xR:Bs<w7.heap.size:=by omega
       have sD:Hid (eD w7 Bs (bs++List.replicate (l.length - i) [])):=jq (lF.out.keep eO.out (by omega));have g37:w7.cell? ⟨b2,o2+m,none⟩=some (.string sz):=(eO.out.cell (by dsimp only;omega)).trans g3;obtain⟨s0,_,_,fP,jZ⟩:=sD.out i [] (by rw[oQ (by omega),bG,Nat.sub_self,List.getElem?_replicate,Qb (by omega)])
       cases hu:Np.bg sn.data.toList z with
       | true=>
        have ea:Hid (Np.iu H k sn.data.toList=sz.data.toList):=jq (by rw[kU.out,hu,Qb rfl,uq.out]);clear hu;go_wp2_with fail;go_roundw
        case rel=>exact kP.out _ (wl.out.setCell (by simp) _) (by simpa using xR) (by rw[ea.out,<-Nl bG aa];exact sD.out.store (by rw[List.length_append,List.length_replicate];omega) sz FR)
        case measure=>simp[intOf] <;> omega
       | false=>
        have ea:Hid (Np.iu H k sn.data.toList = []):=jq (by rw[kU.out,hu];rfl);clear hu;go_wp2_with fail;go_roundw
        case rel=>exact kP.out _ wl.out xR (by rw[ea.out,<-Cs aa];exact sD.out)
        case measure=>simp[intOf] <;> omega
    ·have qs:Hid (∀ (j:Nat) (y:List UInt8),k<=j->H[j]?=some y->0<Np.aD y sn.data.toList):=jq (λj z hj hz=>by have:=(cQ.1 hz).1;omega);have lS:decide ((k:Int)<(H.length:Int))=false:=by simp;omega
     have kP:Hid (∀ W',Below Bs w1 W'->Bs<W'.heap.size->eD W' Bs (bs ++ [Np.iu H k sn.data.toList]++List.replicate (l.length - (i+1)) [])->CN w.heap.size Bs w1 ⟨a.data.toList,l⟩ H (.int .i64 k) (.int .i64 (i+1)) W'):=jq (λW' h1 h2 h3=>by
      refine⟨i+1,k,bs ++ [Np.iu H k sn.data.toList],by show i+1<=l.length;omega,hk,by go_num,rfl,by simp[bG],jq h1,jq h3,h2,Lb,jq λj x' b' hx' hb'=>?_,jq λj y x' hj hy hx'=>?_⟩
      ·have hx':l[j]?=some x':=hx';by_cases e:j<i
       ·rw[List.getElem?_append_left (by omega)] at hb';exact HT.out j x' b' hx' hb'
       ·have lc:j=i:=by have:=(cQ.1 hb').1;simp at this;omega
        subst lc;rw[HX.out] at hx';cases hx';rw[oQ (by omega),bG,Nat.sub_self] at hb'
        cases hb'
        rw[<-aL.out];exact IS.out _ k hk wJ.out qs.out
      ·obtain⟨q1,e1⟩:=cQ.1 HX.out;have hx':l[i+1]?=some x':=hx';obtain⟨q2,e2⟩:=cQ.1 hx';have h4:=HO.out.names (show i<i+1 by omega) q2;dsimp only at h4;rw[e1,e2,<-aL.out] at h4;exact JC (wJ.out j y hj hy) h4)
     have pi:=jq (rW.out);have wk:Hid (Below Bs w1 wr):=jq (HB.out.trans (pi.out.mono (by omega)));have xP:Bs<wr.heap.size:=by have:=pi.out.size;omega
     have lF:Hid (eD wr Bs (bs++List.replicate (l.length - i) [])):=jq (HR.out.keep pi.out (by omega));by_cases gV:k=0
     ·have jC:decide ((0:Int)<(k:Int))=false:=by simp;omega
      have iT:decide (0<k)=false:=by simp;omega
      have kU:Hid (Np.iu H k sn.data.toList = []):=jq (by unfold Np.iu;rw[Qc (by omega)]);clear gV;go_wp2_with fail;go_roundw
      case rel=>exact kP.out _ wk.out xP (by rw[kU.out,<-Cs aa];exact lF.out)
      case measure=>simp[intOf] <;> omega
     ·obtain⟨m,li⟩:∃ m,k=m+1:=⟨k - 1,by omega⟩;obtain⟨z,gU⟩:∃ z,H[m]?=some z:=⟨_,aQ (by omega)⟩;obtain⟨b3,o3,sz,sW,Kl,j9,FR,g3⟩:=oT ((HH.out.keep mc (HB.out.mono (by omega))).keep mc (pi.out.mono (by omega))) gU;have U8:sz.size<=60:=by have:=qk (eX.out z (gQ gU));rw[<-j9,aU] at this;exact this
      have ze:z≠[]:=λe=>by have:=eX.out z (gQ gU);rw[e] at this;exact absurd this (by decide)
      have Ds:Hid (Np.inL (Np.dO sn.data.toList) (Np.dO sz.data.toList)=Np.bg sn.data.toList z):=jq (by rw[j9];exact Np.zg ze);have kU:Hid (Np.iu H k sn.data.toList=if Np.bg sn.data.toList z=true then z else []):=jq (by unfold Np.iu;rw[li,show m+1 - 1=m by omega,gU];simp);have uq:=jq j9;have jC:decide ((0:Int)<(k:Int))=true:=by simp;omega
      have iT:decide (0<k)=true:=by simp;omega
      have ah:IntKind.i64.wrap ((k:Int) - 1)=(m:Int):=by rw[IntWalk.i64_in _ (by omega)];omega
      have iP:(0:Int)<=(m:Int):=by omega
      have rc:(m:Int)<(H.length:Int):=by omega
      clear gU j9 li gV ze;subst sW;go_wp2_with fail;refine (Cn sn sz (by omega) (by omega) _).mono ?_;rw[Ds.out];rintro e w7 ⟨rfl,fz⟩;have eO:=jq fz;have oI:=fz.size;clear fz;have wl:Hid (Below Bs w1 w7):=jq (wk.out.trans (eO.out.mono (by omega)));have xR:Bs<w7.heap.size:=by omega
      have sD:Hid (eD w7 Bs (bs++List.replicate (l.length - i) [])):=jq (lF.out.keep eO.out (by omega));have g37:w7.cell? ⟨b3,o3+m,none⟩=some (.string sz):=(eO.out.cell (by dsimp only;omega)).trans g3;obtain⟨s0,_,_,fP,jZ⟩:=sD.out i [] (by rw[oQ (by omega),bG,Nat.sub_self,List.getElem?_replicate,Qb (by omega)])
      cases hu:Np.bg sn.data.toList z with
      | true=>
       have ea:Hid (Np.iu H k sn.data.toList=sz.data.toList):=jq (by rw[kU.out,hu,Qb rfl,uq.out]);clear hu;go_wp2_with fail;go_roundw
       case rel=>exact kP.out _ (wl.out.setCell (by simp) _) (by simpa using xR) (by rw[ea.out,<-Nl bG aa];exact sD.out.store (by rw[List.length_append,List.length_replicate];omega) sz FR)
       case measure=>simp[intOf] <;> omega
      | false=>
       have ea:Hid (Np.iu H k sn.data.toList = []):=jq (by rw[kU.out,hu];rfl);clear hu;go_wp2_with fail;go_roundw
       case rel=>exact kP.out _ wl.out xR (by rw[ea.out,<-Cs aa];exact sD.out)
       case measure=>simp[intOf] <;> omega
  ·have Fr:i=l.length:=by omega
   have HE:Hid (SlR RTx 1 wr wr.heap.size (.slice (some ⟨Bs,0,none⟩) l.length l.length) (Np.dl ⟨a.data.toList,l⟩)):=jq (by
    have h1:=HR.out;have e:l.length - i=0:=by omega
    dsimp only at h1;rw[e,List.replicate_zero,List.append_nil] at h1;have h2:=h1.slr sX (by omega);have h3:=Np.Re HO.out (B:=bs) (by rw[bG];exact Fr) HT.out;rw[<-h3];rw[bG,Fr] at h2;exact h2)
   clear Fr;go_wp2_with fail;go_ret;exact⟨_,rfl,HE.out,aw.out⟩
theorem X4(a:ByteArray)(v:Value)(l:List Np.Signed)(bI:l.length<=20000)(ho:Np.InOrder ⟨a.data.toList,l⟩)(hv:∀ x∈l,Np.aC x.set.name=true)(w:World)(hd:SlR bh 5 w w.heap.size v l) :
 Calls prog 162 #[.agg #[.string a,v]] w λe w'=>e = .returned (.bool (Np.yes (Np.nS l (Np.dl ⟨a.data.toList,l⟩))))/\Below w.heap.size w w':=by
 obtain⟨B,hB⟩:∃ B,Np.dl ⟨a.data.toList,l⟩=B:=⟨_,rfl⟩;have iK:B.length=l.length:=by rw[<-hB];exact Np.qK _
 obtain⟨r,hr⟩:∃ r,Np.yes (Np.nS l (Np.dl ⟨a.data.toList,l⟩))=r:=⟨_,rfl⟩;rw[hr];rw[hB] at hr;have HR:=jq hr;have cX:=jq iK;have jI:=jq hB;have HD:=jq hd;have HO:=jq ho;have HV:=jq hv;obtain⟨A,c,rfl,bw,bT⟩:=al hd;clear hr hd ho hv hB iK;have HW:Hid (∀ o,Below w.heap.size w (w.alloc o)):=jq (λo=>(vQ _ w).alloc (bQ _) _);go_enter func162,ntmps162;go_wp2_with fail;refine (M9 a _ l bI HO.out HV.out _ (HD.out.later aX cj (HW.out _))).mono ?_;rintro e w1 ⟨bv,rfl,gk,az⟩;have du:w.heap.size<w1.heap.size:=by have:=az.size;simp at this;omega
 have c1':w1.cell? ⟨w.heap.size,1,none⟩=some (.slice A l.length c):=by rw[az.cell (by simp)];go_simp
 have aq:=jq ((HW.out _).trans (az.mono (by simp)));obtain⟨A2,c2,rfl,eG,dI⟩:=al gk;rw[jI.out] at eG dI gk |-;rw[cX.out] at eG dI gk |-;have mR:=jq gk;clear az gk;go_wp2_with fail;go_loopw [4] (λi wr=>∃ k:Nat,k<=l.length/\i = .int .i64 k/\Hid (Below w1.heap.size w1 wr)/\Hid (∀ j x b,j<k->l[j]?=some x->B[j]?=some b->Np.jg x.set b)) (λi _=>l.length - (intOf i).toNat)
 case atStart=>exact⟨0,jQ _,rfl,jq (vQ _ _),jq (λj x b hj=>by omega)⟩
 case round=>
  obtain⟨k,hk,rfl,HB,HA⟩:=hrel;have an:=HB.out.size;have aw:=jq (aq.out.trans (HB.out.mono (by omega)));have d1:wr.cell? ⟨w.heap.size,1,none⟩=some (.slice A l.length c):=(HB.out.cell (by dsimp only;omega)).trans c1';by_cases aa:k<l.length
  ·obtain⟨x,ab⟩:∃ x,l[k]?=some x:=⟨_,aQ aa⟩;obtain⟨bb,dm⟩:∃ bb,B[k]?=some bb:=⟨_,aQ (by rw[cX.out];omega)⟩;obtain⟨b,o,c',sn,dv,sv,hA,bJ,_,ay,cw,aW,aM,e0,e1,e2,e3,e4⟩:=eq (HD.out.keep aX aw.out) ab
   cases hA
   obtain⟨b2,o2,sb,rfl,uN,nK,FQ,g0⟩:=oT (mR.out.keep mc HB.out) dm;have HN:Hid (Np.jg x.set bb->∀ j x b,j<k+1->l[j]?=some x->B[j]?=some b->Np.jg x.set b):=jq (λh j x b hj hx hb=>by
    by_cases e:j=k
    ·subst e;rw[ab] at hx;rw[dm] at hb;cases hx;cases hb;exact h
    ·exact HA.out j x b (by omega) hx hb)
   have HF:Hid (¬ Np.jg x.set bb->r=false):=jq (λh=>by
    rw[<-HR.out];exact Np.aF λq=>h (q k _ _ ab dm))
   clear ab dm;obtain⟨Ad,cd,rfl,_,_⟩:=al aW;obtain⟨As,cs,rfl,_,_⟩:=al aM;have hcell:wr.cell? ⟨w.heap.size,1,none⟩=some (.slice (some ⟨b,o,none⟩) l.length c):=(HB.out.cell (by dsimp only;omega)).trans c1';have cZ:w.heap.size<wr.heap.size:=by omega
   have az:b<wr.heap.size:=by omega
   have ac:b2<wr.heap.size:=by omega
   have aZ:Hid (∀ o,Below w1.heap.size w1 (wr.alloc o)):=jq (λo=>HB.out.alloc HB.out.size _);have mO:Hid (∀ o,Below w.heap.size w (wr.alloc o)):=jq (λo=>aw.out.alloc (by omega) _);have bO:(0:Int)<=(k:Int):=by omega
   have bM:(k:Int)<(l.length:Int):=by omega
   have aL:=jq ay;have eP:=jq nK;obtain⟨ty,eK⟩:∃ ty,x.set.type=ty:=⟨_,rfl⟩;have di:=jq eK;rw[eK] at e1;clear ay nK aW aM eK e4;by_cases cT:bb = []
   ·obtain rfl:sb=⟨#[]⟩:=kL (by rw[eP.out,cT]);have bk:=jq (JG (x:=x.set) cT);clear cT;by_cases h6:ty=6
    ·have HX:Hid (r=false):=jq (HF.out λh=>(bk.out.1 h) (di.out.trans h6));subst h6;go_wp2_with fail;go_quiet (fail);obtain⟨w2,ai⟩:∃ w2,(wr.alloc (.cells #[.string sn,.int .i64 6,.int .i64 x.set.life,.slice Ad x.set.data.length cd] 26)).drewN nq=w2:=⟨_,rfl⟩;rw[ai];have b7:Below wr.heap.size wr w2:=by rw[<-ai];exact below_drewN ((vQ _ _).alloc (bQ _) _) _
     have p1:w2.cell? ⟨wr.heap.size,1,none⟩=some (.int .i64 6):=by rw[<-ai];simp[go_sem]
     have g02:w2.cell? ⟨b2,o2+k,none⟩=some (.string ⟨#[]⟩):=(b7.cell (by dsimp only;omega)).trans g0;have dT:=jq (HB.out.trans (b7.mono HB.out.size));have ng:=jq (aw.out.trans (b7.mono (by omega)));clear b7 ai g0;go_wp2_with fail;go_ret;exact⟨ae HX.out.symm,ng.out⟩
    ·have HX:=jq (HN.out (bk.out.2 λh=>h6 (di.out.symm.trans h)));have h6':(ty == 6)=false:=by simpa using h6
     clear h6;go_wp2_with fail;go_quiet (fail);obtain⟨w2,ai⟩:∃ w2,(wr.alloc (.cells #[.string sn,.int .i64 ty,.int .i64 x.set.life,.slice Ad x.set.data.length cd] 26)).drewN nq=w2:=⟨_,rfl⟩;rw[ai];have b7:Below wr.heap.size wr w2:=by rw[<-ai];exact below_drewN ((vQ _ _).alloc (bQ _) _) _
     have p1:w2.cell? ⟨wr.heap.size,1,none⟩=some (.int .i64 ty):=by rw[<-ai];simp[go_sem]
     have g02:w2.cell? ⟨b2,o2+k,none⟩=some (.string ⟨#[]⟩):=(b7.cell (by dsimp only;omega)).trans g0;have dT:=jq (HB.out.trans (b7.mono HB.out.size));have ng:=jq (aw.out.trans (b7.mono (by omega)));clear b7 ai g0;go_wp2_with fail;go_roundw
     case rel=>exact⟨k+1,by omega,by go_num,jq dT.out,jq HX.out⟩
     case measure=>simp[intOf] <;> omega
   ·have vj:(sb.toList == [])=false:=by rw[dQ,eP.out];simpa using cT
    by_cases il:bb=x.set.name
    ·have Fa:(sn.toList == sb.toList)=true:=by rw[dQ,dQ,eP.out,aL.out];simpa using il.symm
     have bk:=jq (JH (x:=x.set) cT il);clear cT il;by_cases ht:ty=2\/ty=6\/ty=8\/ty=1
     ·have HX:=jq (HN.out (bk.out.2 (by rw[di.out];exact ht)));rcases ht with rfl | rfl | rfl | rfl
      ·skip
       go_wp2_with fail;go_quiet (fail);obtain⟨w2,ai⟩:∃ w2,(wr.alloc (.cells #[.string sn,.int .i64 2,.int .i64 x.set.life,.slice Ad x.set.data.length cd] 26)).drewN nq=w2:=⟨_,rfl⟩;rw[ai];have b7:Below wr.heap.size wr w2:=by rw[<-ai];exact below_drewN ((vQ _ _).alloc (bQ _) _) _
       have p1:w2.cell? ⟨wr.heap.size,1,none⟩=some (.int .i64 2):=by rw[<-ai];simp[go_sem]
       have g02:w2.cell? ⟨b2,o2+k,none⟩=some (.string sb):=(b7.cell (by dsimp only;omega)).trans g0;have dT:=jq (HB.out.trans (b7.mono HB.out.size));have ng:=jq (aw.out.trans (b7.mono (by omega)));clear b7 ai g0;go_wp2_with fail;go_roundw
       case rel=>exact⟨k+1,by omega,by go_num,jq dT.out,jq HX.out⟩
       case measure=>simp[intOf] <;> omega
      ·skip
       go_wp2_with fail;go_quiet (fail);obtain⟨w2,ai⟩:∃ w2,(wr.alloc (.cells #[.string sn,.int .i64 6,.int .i64 x.set.life,.slice Ad x.set.data.length cd] 26)).drewN nq=w2:=⟨_,rfl⟩;rw[ai];have b7:Below wr.heap.size wr w2:=by rw[<-ai];exact below_drewN ((vQ _ _).alloc (bQ _) _) _
       have p1:w2.cell? ⟨wr.heap.size,1,none⟩=some (.int .i64 6):=by rw[<-ai];simp[go_sem]
       have g02:w2.cell? ⟨b2,o2+k,none⟩=some (.string sb):=(b7.cell (by dsimp only;omega)).trans g0;have dT:=jq (HB.out.trans (b7.mono HB.out.size));have ng:=jq (aw.out.trans (b7.mono (by omega)));clear b7 ai g0;go_wp2_with fail;go_roundw
       case rel=>exact⟨k+1,by omega,by go_num,jq dT.out,jq HX.out⟩
       case measure=>simp[intOf] <;> omega
      ·skip
       go_wp2_with fail;go_quiet (fail);obtain⟨w2,ai⟩:∃ w2,(wr.alloc (.cells #[.string sn,.int .i64 8,.int .i64 x.set.life,.slice Ad x.set.data.length cd] 26)).drewN nq=w2:=⟨_,rfl⟩;rw[ai];have b7:Below wr.heap.size wr w2:=by rw[<-ai];exact below_drewN ((vQ _ _).alloc (bQ _) _) _
       have p1:w2.cell? ⟨wr.heap.size,1,none⟩=some (.int .i64 8):=by rw[<-ai];simp[go_sem]
       have g02:w2.cell? ⟨b2,o2+k,none⟩=some (.string sb):=(b7.cell (by dsimp only;omega)).trans g0;have dT:=jq (HB.out.trans (b7.mono HB.out.size));have ng:=jq (aw.out.trans (b7.mono (by omega)));clear b7 ai g0;go_wp2_with fail;go_roundw
       case rel=>exact⟨k+1,by omega,by go_num,jq dT.out,jq HX.out⟩
       case measure=>simp[intOf] <;> omega
      ·skip
       go_wp2_with fail;go_quiet (fail);obtain⟨w2,ai⟩:∃ w2,(wr.alloc (.cells #[.string sn,.int .i64 1,.int .i64 x.set.life,.slice Ad x.set.data.length cd] 26)).drewN nq=w2:=⟨_,rfl⟩;rw[ai];have b7:Below wr.heap.size wr w2:=by rw[<-ai];exact below_drewN ((vQ _ _).alloc (bQ _) _) _
       have p1:w2.cell? ⟨wr.heap.size,1,none⟩=some (.int .i64 1):=by rw[<-ai];simp[go_sem]
       have g02:w2.cell? ⟨b2,o2+k,none⟩=some (.string sb):=(b7.cell (by dsimp only;omega)).trans g0;have dT:=jq (HB.out.trans (b7.mono HB.out.size));have ng:=jq (aw.out.trans (b7.mono (by omega)));clear b7 ai g0;go_wp2_with fail;go_roundw
       case rel=>exact⟨k+1,by omega,by go_num,jq dT.out,jq HX.out⟩
       case measure=>simp[intOf] <;> omega
     ·have HX:Hid (r=false):=jq (HF.out λh=>ht (by have:=bk.out.1 h;rwa [di.out] at this));have t1:(ty != 2)=true:=by simp;omega
      have t2:(ty != 6)=true:=by simp;omega
      have t3:(ty != 8)=true:=by simp;omega
      have t4:(ty != 1)=true:=by simp;omega
      clear ht;go_wp2_with fail;go_quiet (fail);obtain⟨w2,ai⟩:∃ w2,(wr.alloc (.cells #[.string sn,.int .i64 ty,.int .i64 x.set.life,.slice Ad x.set.data.length cd] 26)).drewN nq=w2:=⟨_,rfl⟩;rw[ai];have b7:Below wr.heap.size wr w2:=by rw[<-ai];exact below_drewN ((vQ _ _).alloc (bQ _) _) _
      have p1:w2.cell? ⟨wr.heap.size,1,none⟩=some (.int .i64 ty):=by rw[<-ai];simp[go_sem]
      have g02:w2.cell? ⟨b2,o2+k,none⟩=some (.string sb):=(b7.cell (by dsimp only;omega)).trans g0;have dT:=jq (HB.out.trans (b7.mono HB.out.size));have ng:=jq (aw.out.trans (b7.mono (by omega)));clear b7 ai g0;go_wp2_with fail;go_ret;exact⟨ae HX.out.symm,ng.out⟩
    ·have Fa:(sn.toList == sb.toList)=false:=by rw[dQ,dQ,eP.out,aL.out];simpa using λe:x.set.name=bb=>il e.symm
     have bk:=jq (JI (x:=x.set) cT il);clear cT il;by_cases ht:ty=1
     ·have HX:=jq (HN.out (bk.out.2 (by rw[di.out];exact ht)));subst ht;go_wp2_with fail;go_quiet (fail);obtain⟨w2,ai⟩:∃ w2,(wr.alloc (.cells #[.string sn,.int .i64 1,.int .i64 x.set.life,.slice Ad x.set.data.length cd] 26)).drewN nq=w2:=⟨_,rfl⟩;rw[ai];have b7:Below wr.heap.size wr w2:=by rw[<-ai];exact below_drewN ((vQ _ _).alloc (bQ _) _) _
      have p1:w2.cell? ⟨wr.heap.size,1,none⟩=some (.int .i64 1):=by rw[<-ai];simp[go_sem]
      have g02:w2.cell? ⟨b2,o2+k,none⟩=some (.string sb):=(b7.cell (by dsimp only;omega)).trans g0;have dT:=jq (HB.out.trans (b7.mono HB.out.size));have ng:=jq (aw.out.trans (b7.mono (by omega)));clear b7 ai g0;go_wp2_with fail;go_roundw
      case rel=>exact⟨k+1,by omega,by go_num,jq dT.out,jq HX.out⟩
      case measure=>simp[intOf] <;> omega
     ·have HX:Hid (r=false):=jq (HF.out λh=>ht (by have:=bk.out.1 h;rwa [di.out] at this));have t4:(ty != 1)=true:=by simpa using ht
      clear ht;go_wp2_with fail;go_quiet (fail);obtain⟨w2,ai⟩:∃ w2,(wr.alloc (.cells #[.string sn,.int .i64 ty,.int .i64 x.set.life,.slice Ad x.set.data.length cd] 26)).drewN nq=w2:=⟨_,rfl⟩;rw[ai];have b7:Below wr.heap.size wr w2:=by rw[<-ai];exact below_drewN ((vQ _ _).alloc (bQ _) _) _
      have p1:w2.cell? ⟨wr.heap.size,1,none⟩=some (.int .i64 ty):=by rw[<-ai];simp[go_sem]
      have g02:w2.cell? ⟨b2,o2+k,none⟩=some (.string sb):=(b7.cell (by dsimp only;omega)).trans g0;have dT:=jq (HB.out.trans (b7.mono HB.out.size));have ng:=jq (aw.out.trans (b7.mono (by omega)));clear b7 ai g0;go_wp2_with fail;go_ret;exact⟨ae HX.out.symm,ng.out⟩
  ·go_wp2_with fail;go_ret;refine⟨ae ?_,aw.out⟩;rw[<-HR.out];exact (Np.bB λi x b hx hb=>HA.out i x b (by have:=(cQ.1 hx).1;omega) hx hb).symm
end
end Go.Proofs.YtfnopgdcaanaiaaGreatDoor
