/- Parts of the proof. No condition. -/
import Derived.Test.YtfnopgdcaanaiaaGreatDoorM10
import Derived.Test.YtfnopgdcaanaiaaGreatDoorM11
import Derived.Test.YtfnopgdcaanaiaaGreatDoorM12
set_option linter.all false
set_option maxRecDepth 100000
set_option maxHeartbeats 8000000
namespace Go.Proofs.YtfnopgdcaanaiaaGreatDoor
open Go.Proofs.Tryz
section
open Go.RowKit
theorem PJ(l:List (List UInt8)):∀ k,(Np.eT (l.take k)).length<=k:=by
 intro k;have key:∀ (r o:List (List UInt8)),(r.foldl Np.o8 o).length<=o.length+r.length:=by
  intro r
  induction r with
  | nil=>intro o;simp
  | cons c r ih=>
   intro o;have h1:(Np.o8 o c).length<=o.length+1:=by
    unfold Np.o8
    cases o.getLast? with
    | none=>simp
    | some q=>dsimp only;split <;> simp
   have:=ih (Np.o8 o c)
   rw[List.foldl_cons,List.length_cons];omega
 have:=key (l.take k) []
 rw[List.length_take] at this;unfold Np.eT;simp at this;omega
theorem JV(l:List (List UInt8)):∀ x∈Np.eT l,x∈l:=by
 have key:∀ (r o:List (List UInt8)),∀ x∈r.foldl Np.o8 o,x∈o\/x∈r:=by
  intro r
  induction r with
  | nil=>intro o x hx;exact .inl hx
  | cons c r ih=>
   intro o x hx;rcases ih _ x hx with h | h
   ·unfold Np.o8 at h
    cases hg:o.getLast? with
    | none=>rw[hg] at h;simp at h;exact .inr (by simp[h])
    | some q=>
     rw[hg] at h;dsimp only at h;split at h
     ·exact .inl h
     ·rcases List.mem_append.1 h with h | h
      ·exact .inl h
      ·simp at h;exact .inr (by simp[h])
   ·exact .inr (mQ _ h)
 intro x hx;rcases key l [] x hx with h | h
 ·cases h
 ·exact h
theorem rP{x:List UInt8}(h:Np.aD x=true):x.length<=60:=by
 unfold Np.aD at h;split at h
 ·rename_i e;rw[e];decide
 ·split at h
  ·cases h
  ·omega
theorem aCQ(a:ByteArray)(v:Value)(l:List Np.Signed)(bW:l.length<=20000)(hv:∀ x∈l,Np.aD x.set.name=true)(w:World)(hd:SlR bO 5 w w.heap.size v l) :
 Calls prog 305 #[.agg #[.string a,v]] w (yg RTx 1 w (Np.eT (Np.dg a.data.toList l))):=by
 have HD:=jq hd;obtain⟨A,c,rfl,bq,bM⟩:=ak hd;have HW:Hid (∀ o,Below w.heap.size w (w.alloc o)):=jq (λo=>(vQ _ w).alloc (bQ _) _);have qZ:Hid (∀ x∈Np.dg a.data.toList l,Np.aD x=true):=jq (λx hx=>by
  unfold Np.dg at hx;obtain⟨y,hy,rfl⟩:=List.mem_map.1 hx;exact hv y (List.mem_filter.1 hy).1)
 clear hd hv;go_enter func305,ntmps305;go_wp2_with fail;refine (aBQ a _ l bW _ (HD.out.later bj cC (HW.out _))).mono ?_;rintro e w1 ⟨vc,rfl,Ks,ay⟩;have bd:w.heap.size<w1.heap.size:=by have:=ay.size;simp at this;omega
 have av:=jq ((HW.out _).trans (ay.mono (by simp)));clear ay;have l9:(Np.dg a.data.toList l).length<=20000:=by
  unfold Np.dg;rw[List.length_map];exact yQ (List.length_filter_le _ _) bW
 generalize Np.dg a.data.toList l=cs at *;obtain⟨Ac,cc,rfl,uh,a4Z⟩:=ak Ks;have HC:=jq Ks;clear Ks;go_wp2_with fail;go_loopw [4,5] (λvo i wr=>∃ (k:Nat),k<=cs.length/\i = .int .i64 k/\Hid (Below w1.heap.size w1 wr)/\Hid (cF w1.heap.size wr vo (Np.eT (cs.take k)))) (λ_ i _=>cs.length - (intOf i).toNat)
 case atStart=>exact⟨0,jQ _,rfl,jq (vQ _ _),jq ⟨by simp,.inl ⟨rfl,rfl⟩⟩⟩
 case round=>
  obtain⟨k,hk,rfl,HB,HO⟩:=hrel;have an:=HB.out.size;have aG:=acZ av HB.out;have yI:Hid (∀ x∈Np.eT (cs.take k),x.length<=140737488355328):=jq (λx hx=>by
   have:=rP (qZ.out x (List.mem_of_mem_take (JV _ x hx)))
   omega)
  have jm:Hid ((Np.eT (cs.take k)).length<=20000):=jq (by have:=PJ cs k;omega);by_cases ab:k<cs.length
  ·obtain⟨x,aa⟩:∃ x,cs[k]?=some x:=⟨_,aQ ab⟩;obtain⟨b,o,sn,rfl,bA,aw,cB,f0⟩:=qz (HC.out.keep mY HB.out) aa;have Vb:Hid (Np.aD x=true):=jq (qZ.out x (gQ aa));have HT:Hid (Np.eT (cs.take (k+1))=Np.o8 (Np.eT (cs.take k)) x):=jq (by
    obtain⟨hl,he⟩:=cQ.1 aa;rw[fQ hl,Np.PG,he])
   have aT:=jq aw;have bJ:(0:Int)<=(k:Int):=by omega
   have bI:(k:Int)<(cs.length:Int):=by omega
   have ay:b<wr.heap.size:=by omega
   have k9:∀ (g:bk wr) (p:Addr),p.block<wr.heap.size->g.w.cell? p=wr.cell? p:=λg p h=>g.cell p h;have AI:=jq (HO.out.slr (by have:=jm.out;omega) yI.out);have UD:Hid (∀ y∈Np.eT (cs.take k),Np.aD y=true):=jq (λy hy=>qZ.out y (List.mem_of_mem_take (JV _ y hy)));clear aa aw;generalize Np.eT (cs.take k)=out at *;obtain⟨Ao,co,rfl⟩:=HO.out.form;by_cases h0:out.length=0
   ·obtain rfl:out = []:=rQ h0;have lv:Hid (Np.eT (cs.take (k+1)) = [] ++ [x]):=jq (by rw[HT.out];rfl);clear h0;go_wp2_with fail;refine a0Z ?_
    repeat (go_big_quiet_step (fail))
    refine wpQuiet_nil ?_;rintro _ ⟨g,rfl⟩;have HG:=jq g.below;have jL:=g.size;have fg:g.w.cell? ⟨b,o+k,none⟩=some (.string sn):=(k9 g _ ay).trans f0;have Ht:=jq (HO.out.keep g.below);generalize g.w=w2 at *;go_wp2_with (at_builtin;refine zS _ rfl _ _ rfl w1.heap.size _ [] rfl (Ht.out.alloc _) w2.heap.size sn.data.toList (by simp[go_sem]) (by simp[go_sem]) (by simp) (by simp;omega) ?_;intro v5 w5 dV aH;have H5:=jq (And.intro dV aH);clear dV aH);go_roundw
    case rel=>exact⟨k+1,by omega,by go_num,jq (((HB.out.trans (HG.out.adZ)).alloc (by omega) _).trans H5.out.2),jq (by rw[lv.out,<-aT.out];exact H5.out.1)⟩
    case measure=>simp[intOf] <;> omega
   ·obtain⟨n,hn⟩:∃ n,out.length=n+1:=⟨out.length - 1,by omega⟩;obtain⟨q,hq⟩:∃ q,out[n]?=some q:=⟨_,aQ (by omega)⟩;obtain⟨b2,o2,sq,rfl,y9,kC,bcQ,g0⟩:=qz AI.out hq;have Cn:out.getLast?=some q:=by rw[List.getLast?_eq_getElem?,hn];exact hq
    have lv:Hid (Np.eT (cs.take (k+1))=if Np.bD x q=true then out else out ++ [x]):=jq (by rw[HT.out,Np.o8,Cn]);have Ni:Hid (Np.aD q=true):=jq (UD.out q (gQ hq));obtain⟨bu,JA⟩:=acJ (Np.bD x q);have bL:∀ g:bk wr,Calls prog 222 #[.string sn,.string sq] g.w λe w'=>e = .returned (.bool bu)/\Below g.w.heap.size g.w w':=λg=>by
     have gZ:q≠[]:=λe=>by have:=Ni.out;rw[e] at this;exact absurd this (by decide)
     rw[<-JA,<-Np.zB gZ,<-aT.out,<-kC];have s1:=rP Vb.out;have s2:=rP Ni.out;rw[<-aT.out,bn] at s1;rw[<-kC,bn] at s2;exact C2 sn sq (by omega) (by omega) _
    have jC:=jq bL;have tC:=jq JA;obtain⟨N,hN⟩:=acJ out.length;have HN:=jq hN;have xl:((N:Int) == 0)=false:=by rw[beq_eq_false_iff_ne];omega
    have ah:IntKind.i64.wrap ((N:Int) - 1)=(n:Int):=by rw[IntWalk.i64_in _ (by have:=jm.out;omega)];omega
    have la:(0:Int)<=(n:Int):=by omega
    have ru:(n:Int)<(N:Int):=by omega
    have MM:Hid (cF w1.heap.size wr (.slice (some ⟨b2,o2,none⟩) N co) out):=jq (by rw[<-hN];exact HO.out);rw[hN];clear hn hq kC Cn bL JA h0 hN
    cases bu with
    | true=>
     have dp:=jq (lv.out.trans (Qb tC.out));go_wp2_with fail;refine a0Z ?_
     repeat (go_big_quiet_step ((go_at_call 222;exact Calls.grow_of (jC.out _))))
     refine wpQuiet_nil ?_;rintro _ ⟨g,rfl⟩;go_wp2_with fail;go_roundw
     case rel=>exact⟨k+1,by omega,by go_num,acZ HB g.below,jq (by rw[dp.out];exact MM.out.keep g.below)⟩
     case measure=>simp[intOf] <;> omega
    | false=>
     have dp:=jq (lv.out.trans (Qc (by rw[tC.out];simp)));go_wp2_with fail;refine a0Z ?_
     repeat (go_big_quiet_step ((go_at_call 222;exact Calls.grow_of (jC.out _))))
     refine wpQuiet_nil ?_;rintro _ ⟨g,rfl⟩;have HG:=jq g.below;have jL:=g.size;have fg:g.w.cell? ⟨b,o+k,none⟩=some (.string sn):=(k9 g _ ay).trans f0;have Ht:=jq (MM.out.keep g.below);clear k9;generalize g.w=w2 at *;go_wp2_with (at_builtin;refine zS _ rfl _ _ rfl w1.heap.size _ out rfl (Ht.out.alloc _) w2.heap.size sn.data.toList (by simp[go_sem]) (by simp[go_sem]) (by have:=jm.out;omega) (by simp;omega) ?_;intro v5 w5 dV aH;have H5:=jq (And.intro dV aH);clear dV aH);go_roundw
     case rel=>exact⟨k+1,by omega,by go_num,jq (((HB.out.trans (HG.out.adZ)).alloc (by omega) _).trans H5.out.2),jq (by rw[dp.out,<-aT.out];exact H5.out.1)⟩
     case measure=>simp[intOf] <;> omega
  ·have HE:Hid (cs.take k=cs):=jq (kQ (by omega));go_wp2_with fail;go_ret;refine⟨_,rfl,?_,aG.out⟩;have h1:=HO.out;have h2:=jm.out;have h3:=yI.out;rw[HE.out] at h1 h2 h3;exact h1.slr (by omega) h3
theorem Oc{a b c:List UInt8}(h1:Np.aL a b<=0)(h2:Np.aL b c<=0):Np.aL a c<=0:=by
 by_cases e1:Np.aL a b=0
 ·rw[Np.fW.zero _ _ e1];exact h2
 ·by_cases e2:Np.aL b c=0
  ·rw[<-Np.fW.zero _ _ e2];exact h1
  ·exact Int.le_of_lt (Np.fW.trans a b c (by omega) (by omega))
theorem WA{a b c:List UInt8}(h1:0<Np.aL a c)(h2:Np.aL a b<0):0<Np.aL b c:=by
 have h3:=Np.fW.anti' _ _ h1;have h4:=Np.fW.trans _ _ _ h3 h2;exact Np.fW.anti _ _ h4
theorem FM{bs:List (List UInt8)}{n i:Nat}(hi:i<n):bs++List.replicate (n - i) []=bs ++ [[]]++List.replicate (n - (i+1)) []:=by
 rw[show n - i=(n - (i+1))+1 by omega,List.replicate_succ,List.append_assoc];rfl
theorem Sa{bs:List (List UInt8)}{n i:Nat}{b:List UInt8}(hb:bs.length=i)(hi:i<n):(bs++List.replicate (n - i) []).set i b=bs ++ [b]++List.replicate (n - (i+1)) []:=by
 rw[show n - i=(n - (i+1))+1 by omega,List.replicate_succ,List.set_append_right _ _ (by omega),hb,Nat.sub_self,List.set_cons_zero,List.append_assoc];rfl
def Gc(n0 Bs:Nat)(w1:World)(z:Np.Zone)(H:List (List UInt8))(vk vi:Value)(wr:World):Prop:=
 ∃ (i k:Nat) (bs:List (List UInt8)),i<=z.sets.length/\k<=H.length/\vi = .int .i64 i/\vk = .int .i64 k/\bs.length=i/\Hid (Below Bs w1 wr)/\Hid (gb wr Bs (bs++List.replicate (z.sets.length - i) []))/\Bs<wr.heap.size/\n0<=Bs/\
   Hid (∀ (j:Nat) (x:Np.Signed) (b:List UInt8),z.sets[j]?=some x->bs[j]?=some b->Np.jG (Np.dh z) x.set.name b)/\Hid (∀ (j:Nat) (y:List UInt8) (x:Np.Signed),j<k->H[j]?=some y->z.sets[i]?=some x->Np.aL y x.set.name<=0)
theorem RX(a:ByteArray)(v:Value)(l:List Np.Signed)(bW:l.length<=20000)(ho:Np.InOrder ⟨a.data.toList,l⟩)(hv:∀ x∈l,Np.aD x.set.name=true)(w:World)(hd:SlR bO 5 w w.heap.size v l) :
 Calls prog 237 #[.agg #[.string a,v]] w (yg RTx 1 w (Np.eM ⟨a.data.toList,l⟩)):=by
 have HD:=jq hd;obtain⟨A,c,rfl,bq,bM⟩:=ak hd;have HW:Hid (∀ o,Below w.heap.size w (w.alloc o)):=jq (λo=>(vQ _ w).alloc (bQ _) _);have HO:=jq ho;have HV:=jq hv;have fu:Hid (∀ x∈Np.eT (Np.dg a.data.toList l),Np.aD x=true):=jq (λx hx=>by
  have hx:=JV _ x hx;unfold Np.dg at hx;obtain⟨y,hy,rfl⟩:=List.mem_map.1 hx;exact hv y (List.mem_filter.1 hy).1)
 have Nd:Hid (∀ (n:List UInt8) (k:Nat),k<=(Np.eT (Np.dg a.data.toList l)).length->(∀ j x,j<k->(Np.eT (Np.dg a.data.toList l))[j]?=some x->Np.aL x n<=0)->(∀ j x,k<=j->(Np.eT (Np.dg a.data.toList l))[j]?=some x->0<Np.aL x n)->Np.jG (Np.dh ⟨a.data.toList,l⟩) n (Np.jZ (Np.eT (Np.dg a.data.toList l)) k n)):=jq (λn k hk h1 h2=>Np.aAY ho hk h1 h2);have U2:Hid ((Np.eT (Np.dg a.data.toList l)).Pairwise λa b=>Np.aL a b<0):=jq (Np.PH ho).1.sorted;have hhl:(Np.eT (Np.dg a.data.toList l)).length<=20000:=by
  have h1:=PJ (Np.dg a.data.toList l) (Np.dg a.data.toList l).length;rw[List.take_length] at h1;have h2:(Np.dg a.data.toList l).length<=l.length:=by
   unfold Np.dg;rw[List.length_map];exact List.length_filter_le _ _
  omega
 clear hd ho;go_enter func237,ntmps237;go_wp2_with fail;refine (aCQ a _ l bW hv _ (HD.out.later bj cC (HW.out _))).mono ?_;rintro e w1 ⟨vh,rfl,Kt,ay⟩;have bd:w.heap.size<w1.heap.size:=by have:=ay.size;simp at this;omega
 have c1:w1.cell? ⟨w.heap.size,1,none⟩=some (.slice A l.length c):=by rw[ay.cell (by simp)];go_simp
 have av:=jq ((HW.out _).trans (ay.mono (by simp)));clear ay hv;generalize Np.eT (Np.dg a.data.toList l)=H at *;obtain⟨Ah,ch,rfl,hch,a5Q⟩:=ak Kt;have HH:=jq Kt;clear Kt;have gY:=KV l.length bW;have HZ:Hid (∀ j,j<l.length->(madeCells #[Value.string ⟨#[]⟩] l.length)[j]?=some (.string ⟨#[]⟩)):=jq (λj hj=>KU _ _ hj);generalize madeCells #[Value.string ⟨#[]⟩] l.length=Z at gY HZ;go_wp2_with fail;obtain⟨Bs,p8⟩:=acJ w1.heap.size;obtain⟨w2,aj⟩:=acJ (w1.alloc (.cells Z 9));have ac:Below Bs w1 w2:=by rw[<-aj,<-p8];exact (vQ _ _).alloc (bQ _) _
 have aN:Bs<w2.heap.size:=by rw[<-aj];simp;omega
 have AP:Hid (gb w2 Bs ([]++List.replicate (l.length - 0) [])):=jq (λj x hx=>by
  rw[List.nil_append,Nat.sub_zero,List.getElem?_replicate] at hx;split at hx
  ·rename_i hj
   cases hx
   refine⟨⟨#[]⟩,rfl,by decide,?_,?_⟩
   ·rw[<-aj,<-p8];simp[go_sem];exact HZ.out j hj
   ·rw[<-aj,<-p8];simp[go_sem]
  ·cases hx)
 have ai:=jq ac;rw[aj,p8];clear aj ac gY HZ;go_loopw [5,6] (λvk vi wr=>Gc w.heap.size Bs w1 ⟨a.data.toList,l⟩ H vk vi wr) (λ_ i _=>l.length - (intOf i).toNat)
 case atStart=>exact⟨0,0,[],jQ _,jQ _,rfl,rfl,rfl,ai,AP,aN,by omega,jq (λj x b _ hb=>by simp at hb),jq (λj y x hj=>by omega)⟩
 case round=>
  obtain⟨i,k,bs,hi,hk,rfl,rfl,bB,HB,HR,wD,P6,HT,HK⟩:=hrel;have hi:i<=l.length:=hi;have d1:wr.cell? ⟨w.heap.size,1,none⟩=some (.slice A l.length c):=aaJ HB.out c1;have aG:Hid (Below w.heap.size w wr):=acZ av HB.out;have dK:w.heap.size<wr.heap.size:=by omega
  by_cases ab:i<l.length
  ·obtain⟨x,aa⟩:∃ x,l[i]?=some x:=⟨_,aQ ab⟩;obtain⟨b,o,c',sn,dv,sv,hA,bA,_,aw,cB,aK,aS,f0,f1,f2,f3,f4⟩:=fE (HD.out.keep bj aG.out) aa
   cases hA
   have HX:=jq aa;have aT:=jq aw;have ZV:sn.size<=60:=by have:=rP (HV.out x (gQ aa));rw[<-aw,bn] at this;exact this
   have la:(0:Int)<=(i:Int):=by omega
   have ru:(i:Int)<(l.length:Int):=by omega
   have ay:b<wr.heap.size:=by omega
   have rX:Hid (∀ (j:Nat) (y:List UInt8),j<k->H[j]?=some y->Np.aL y sn.data.toList<=0):=jq (λj y hj hy=>by rw[aw];exact HK.out j y x hj hy aa);clear aa aw aK aS f1 f2 f3 f4 HK;go_wp2_with fail;obtain⟨wo,rfl⟩:=acY wr;go_loopw [5] (λvk wr=>∃ k:Nat,k<=H.length/\vk = .int .i64 k/\Hid (Below wo.heap.size wo wr)/\Hid (∀ (j:Nat) (y:List UInt8),j<k->H[j]?=some y->Np.aL y sn.data.toList<=0)) (λk _=>H.length - (intOf k).toNat)
   case atStart=>exact⟨k,hk,rfl,jq (vQ _ _),rX⟩
   case round=>
    obtain⟨k,hk,rfl,vq,Aw⟩:=hrel;have uN:=vq.out.size;have Tv:Hid (SlR RTx 1 wr w1.heap.size (.slice Ah H.length ch) H):=jq ((HH.out.keep mY (HB.out.adZ)).keep mY (vq.out.adZ));by_cases mJ:k<H.length
    ·obtain⟨y,dR⟩:∃ y,H[k]?=some y:=⟨_,aQ mJ⟩;obtain⟨b2,o2,sy,rfl,y9,gk,bcZ,g0⟩:=qz Tv.out dR;have bbY:sy.size<=60:=by have:=rP (fu.out y (gQ dR));rw[<-gk,bn] at this;exact this
     have HY:=jq dR;have tO:=jq gk;have bJ:(0:Int)<=(k:Int):=by omega
     have bI:(k:Int)<(H.length:Int):=by omega
     clear dR gk;go_wp2_with fail;refine (K7 sy sn (by omega) (by omega) _).mono ?_;rintro e w6 ⟨rfl,aW⟩;have dl:=jq aW;have iy:=aW.size;clear aW;by_cases ie:Np.aL sy.data.toList sn.data.toList<=0
     ·have HN:Hid (∀ (j:Nat) (y:List UInt8),j<k+1->H[j]?=some y->Np.aL y sn.data.toList<=0):=jq (λj z hj hz=>by
       by_cases e:j=k
       ·subst e;rw[HY.out] at hz;cases hz;rw[<-tO.out];exact ie
       ·exact Aw.out j z (by omega) hz)
      go_wp2_with fail;go_roundw
      case rel=>exact⟨k+1,by omega,by go_num,jq (vq.out.trans (dl.out.mono vq.out.size)),jq HN.out⟩
      case measure=>simp[intOf] <;> omega
     ·have oD:Hid (∀ (j:Nat) (y:List UInt8),k<=j->H[j]?=some y->0<Np.aL y sn.data.toList):=jq (λj z hj hz=>by
       by_cases e:j=k
       ·subst e;rw[HY.out] at hz;cases hz;rw[<-tO.out];omega
       ·obtain⟨h1,e1⟩:=cQ.1 HY.out;obtain⟨h2,e2⟩:=cQ.1 hz
        have:=List.pairwise_iff_getElem.1 U2.out k j h1 h2 (by omega)
        rw[e1,e2] at this;exact WA (by rw[<-tO.out];omega) this)
      have mx:Hid (∀ W',Below Bs w1 W'->Bs<W'.heap.size->gb W' Bs (bs ++ [Np.jZ H k sn.data.toList]++List.replicate (l.length - (i+1)) [])->Gc w.heap.size Bs w1 ⟨a.data.toList,l⟩ H (.int .i64 k) (.int .i64 (i+1)) W'):=jq (λW' h1 h2 h3=>by
       refine⟨i+1,k,bs ++ [Np.jZ H k sn.data.toList],by show i+1<=l.length;omega,hk,by go_num,rfl,by simp[bB],jq h1,jq h3,h2,P6,jq λj x' b' hx' hb'=>?_,jq λj y x' hj hy hx'=>?_⟩
       ·have hx':l[j]?=some x':=hx';by_cases e:j<i
        ·rw[List.getElem?_append_left (by omega)] at hb';exact HT.out j x' b' hx' hb'
        ·have mG:j=i:=by have:=(cQ.1 hb').1;simp at this;omega
         subst mG;rw[HX.out] at hx';cases hx';rw[oQ (by omega),bB,Nat.sub_self] at hb'
         cases hb'
         rw[<-aT.out];exact Nd.out _ k hk Aw.out oD.out
       ·obtain⟨q1,e1⟩:=cQ.1 HX.out;have hx':l[i+1]?=some x':=hx';obtain⟨q2,e2⟩:=cQ.1 hx';have h4:=HO.out.names (show i<i+1 by omega) q2;dsimp only at h4;rw[e1,e2,<-aT.out] at h4;exact Oc (Aw.out j y hj hy) h4)
      have nB:=jq (vq.out.trans (dl.out.mono vq.out.size));have Af:Hid (Below Bs w1 w6):=acZ HB nB.out;have BC:Bs<w6.heap.size:=by have:=nB.out.size;omega
      have l3:Hid (gb w6 Bs (bs++List.replicate (l.length - i) [])):=jq (HR.out.keep nB.out (by omega));by_cases gX:k=0
      ·have jP:decide ((0:Int)<(k:Int))=false:=by simp;omega
       have jt:decide (0<k)=false:=by simp;omega
       have oN:Hid (Np.jZ H k sn.data.toList = []):=jq (by unfold Np.jZ;rw[Qc (by omega)]);clear gX;go_wp2_with fail;go_roundw
       case rel=>exact mx.out _ Af.out BC (by rw[oN.out,<-FM ab];exact l3.out)
       case measure=>simp[intOf] <;> omega
      ·obtain⟨m,mK⟩:∃ m,k=m+1:=⟨k - 1,by omega⟩;obtain⟨z,jL⟩:∃ z,H[m]?=some z:=⟨_,aQ (by omega)⟩;obtain⟨b3,o3,sz,Ej,Yn,lN,Km,g3⟩:=qz ((HH.out.keep mY (HB.out.adZ)).keep mY (nB.out.adZ)) jL;have Z0:sz.size<=60:=by have:=rP (fu.out z (gQ jL));rw[<-lN,bn] at this;exact this
       have CS:z≠[]:=λe=>by have:=fu.out z (gQ jL);rw[e] at this;exact absurd this (by decide)
       have GY:Hid (Np.inL (Np.fm sn.data.toList) (Np.fm sz.data.toList)=Np.bD sn.data.toList z):=jq (by rw[lN];exact Np.zB CS);have oN:Hid (Np.jZ H k sn.data.toList=if Np.bD sn.data.toList z=true then z else []):=jq (by unfold Np.jZ;rw[mK,show m+1 - 1=m by omega,jL];simp);have yI:=jq lN;have jP:decide ((0:Int)<(k:Int))=true:=by simp;omega
       have jt:decide (0<k)=true:=by simp;omega
       have ah:IntKind.i64.wrap ((k:Int) - 1)=(m:Int):=by rw[IntWalk.i64_in _ (by omega)];omega
       have jM:(0:Int)<=(m:Int):=by omega
       have sR:(m:Int)<(H.length:Int):=by omega
       clear jL lN mK gX CS;simp only[Option.some.injEq,Addr.mk.injEq,and_true] at Ej;obtain⟨rfl,rfl⟩:=Ej;go_wp2_with fail;refine (C2 sn sz (by omega) (by omega) _).mono ?_;rw[GY.out];rintro e w7 ⟨rfl,dO⟩;have cD:=jq dO;have mR:=dO.size;clear dO;have Ag:Hid (Below Bs w1 w7):=acZ Af cD.out;have BD:Bs<w7.heap.size:=by omega
       have vR:Hid (gb w7 Bs (bs++List.replicate (l.length - i) [])):=jq (l3.out.keep cD.out (by omega));have g37:w7.cell? ⟨b2,o2+m,none⟩=some (.string sz):=aaJ cD.out g3;obtain⟨s0,_,_,ij,lL⟩:=vR.out i [] (by rw[oQ (by omega),bB,Nat.sub_self,List.getElem?_replicate,Qb (by omega)])
       cases hu:Np.bD sn.data.toList z with
       | true=>
        have fN:Hid (Np.jZ H k sn.data.toList=sz.data.toList):=jq (by rw[oN.out,hu,Qb rfl,yI.out]);clear hu;go_wp2_with fail;go_roundw
        case rel=>exact mx.out _ (Ag.out.setCell (by simp) _) (by simpa using BD) (by rw[fN.out,<-Sa bB ab];exact vR.out.store (by rw[List.length_append,List.length_replicate];omega) sz Km)
        case measure=>simp[intOf] <;> omega
       | false=>
        have fN:Hid (Np.jZ H k sn.data.toList = []):=jq (by rw[oN.out,hu];rfl);clear hu;go_wp2_with fail;go_roundw
        case rel=>exact mx.out _ Ag.out BD (by rw[fN.out,<-FM ab];exact vR.out)
        case measure=>simp[intOf] <;> omega
    ·have oD:Hid (∀ (j:Nat) (y:List UInt8),k<=j->H[j]?=some y->0<Np.aL y sn.data.toList):=jq (λj z hj hz=>by have:=(cQ.1 hz).1;omega);have pa:decide ((k:Int)<(H.length:Int))=false:=by simp;omega
     have mx:Hid (∀ W',Below Bs w1 W'->Bs<W'.heap.size->gb W' Bs (bs ++ [Np.jZ H k sn.data.toList]++List.replicate (l.length - (i+1)) [])->Gc w.heap.size Bs w1 ⟨a.data.toList,l⟩ H (.int .i64 k) (.int .i64 (i+1)) W'):=jq (λW' h1 h2 h3=>by
      refine⟨i+1,k,bs ++ [Np.jZ H k sn.data.toList],by show i+1<=l.length;omega,hk,by go_num,rfl,by simp[bB],jq h1,jq h3,h2,P6,jq λj x' b' hx' hb'=>?_,jq λj y x' hj hy hx'=>?_⟩
      ·have hx':l[j]?=some x':=hx';by_cases e:j<i
       ·rw[List.getElem?_append_left (by omega)] at hb';exact HT.out j x' b' hx' hb'
       ·have mG:j=i:=by have:=(cQ.1 hb').1;simp at this;omega
        subst mG;rw[HX.out] at hx';cases hx';rw[oQ (by omega),bB,Nat.sub_self] at hb'
        cases hb'
        rw[<-aT.out];exact Nd.out _ k hk Aw.out oD.out
      ·obtain⟨q1,e1⟩:=cQ.1 HX.out;have hx':l[i+1]?=some x':=hx';obtain⟨q2,e2⟩:=cQ.1 hx';have h4:=HO.out.names (show i<i+1 by omega) q2;dsimp only at h4;rw[e1,e2,<-aT.out] at h4;exact Oc (Aw.out j y hj hy) h4)
     have nB:=jq (vq.out);have Af:Hid (Below Bs w1 wr):=acZ HB nB.out;have BC:Bs<wr.heap.size:=by have:=nB.out.size;omega
     have l3:Hid (gb wr Bs (bs++List.replicate (l.length - i) [])):=jq (HR.out.keep nB.out (by omega));by_cases gX:k=0
     ·have jP:decide ((0:Int)<(k:Int))=false:=by simp;omega
      have jt:decide (0<k)=false:=by simp;omega
      have oN:Hid (Np.jZ H k sn.data.toList = []):=jq (by unfold Np.jZ;rw[Qc (by omega)]);clear gX;go_wp2_with fail;go_roundw
      case rel=>exact mx.out _ Af.out BC (by rw[oN.out,<-FM ab];exact l3.out)
      case measure=>simp[intOf] <;> omega
     ·obtain⟨m,mK⟩:∃ m,k=m+1:=⟨k - 1,by omega⟩;obtain⟨z,jL⟩:∃ z,H[m]?=some z:=⟨_,aQ (by omega)⟩;obtain⟨b3,o3,sz,Ej,Yn,lN,Km,g3⟩:=qz ((HH.out.keep mY (HB.out.adZ)).keep mY (nB.out.adZ)) jL;have Z0:sz.size<=60:=by have:=rP (fu.out z (gQ jL));rw[<-lN,bn] at this;exact this
      have CS:z≠[]:=λe=>by have:=fu.out z (gQ jL);rw[e] at this;exact absurd this (by decide)
      have GY:Hid (Np.inL (Np.fm sn.data.toList) (Np.fm sz.data.toList)=Np.bD sn.data.toList z):=jq (by rw[lN];exact Np.zB CS);have oN:Hid (Np.jZ H k sn.data.toList=if Np.bD sn.data.toList z=true then z else []):=jq (by unfold Np.jZ;rw[mK,show m+1 - 1=m by omega,jL];simp);have yI:=jq lN;have jP:decide ((0:Int)<(k:Int))=true:=by simp;omega
      have jt:decide (0<k)=true:=by simp;omega
      have ah:IntKind.i64.wrap ((k:Int) - 1)=(m:Int):=by rw[IntWalk.i64_in _ (by omega)];omega
      have jM:(0:Int)<=(m:Int):=by omega
      have sR:(m:Int)<(H.length:Int):=by omega
      clear jL lN mK gX CS;subst Ej;go_wp2_with fail;refine (C2 sn sz (by omega) (by omega) _).mono ?_;rw[GY.out];rintro e w7 ⟨rfl,dO⟩;have cD:=jq dO;have mR:=dO.size;clear dO;have Ag:Hid (Below Bs w1 w7):=acZ Af cD.out;have BD:Bs<w7.heap.size:=by omega
      have vR:Hid (gb w7 Bs (bs++List.replicate (l.length - i) [])):=jq (l3.out.keep cD.out (by omega));have g37:w7.cell? ⟨b3,o3+m,none⟩=some (.string sz):=aaJ cD.out g3;obtain⟨s0,_,_,ij,lL⟩:=vR.out i [] (by rw[oQ (by omega),bB,Nat.sub_self,List.getElem?_replicate,Qb (by omega)])
      cases hu:Np.bD sn.data.toList z with
      | true=>
       have fN:Hid (Np.jZ H k sn.data.toList=sz.data.toList):=jq (by rw[oN.out,hu,Qb rfl,yI.out]);clear hu;go_wp2_with fail;go_roundw
       case rel=>exact mx.out _ (Ag.out.setCell (by simp) _) (by simpa using BD) (by rw[fN.out,<-Sa bB ab];exact vR.out.store (by rw[List.length_append,List.length_replicate];omega) sz Km)
       case measure=>simp[intOf] <;> omega
      | false=>
       have fN:Hid (Np.jZ H k sn.data.toList = []):=jq (by rw[oN.out,hu];rfl);clear hu;go_wp2_with fail;go_roundw
       case rel=>exact mx.out _ Ag.out BD (by rw[fN.out,<-FM ab];exact vR.out)
       case measure=>simp[intOf] <;> omega
  ·have JU:i=l.length:=by omega
   have HE:Hid (SlR RTx 1 wr wr.heap.size (.slice (some ⟨Bs,0,none⟩) l.length l.length) (Np.eM ⟨a.data.toList,l⟩)):=jq (by
    have h1:=HR.out;have e:l.length - i=0:=by omega
    dsimp only at h1;rw[e,List.replicate_zero,List.append_nil] at h1;have h2:=h1.slr wD (by omega);have h3:=Np.VT HO.out (B:=bs) (by rw[bB];exact JU) HT.out;rw[<-h3];rw[bB,JU] at h2;exact h2)
   clear JU;go_wp2_with fail;go_ret;exact⟨_,rfl,HE.out,aG.out⟩
theorem aBY(a:ByteArray)(v:Value)(l:List Np.Signed)(bW:l.length<=20000)(ho:Np.InOrder ⟨a.data.toList,l⟩)(hv:∀ x∈l,Np.aD x.set.name=true)(w:World)(hd:SlR bO 5 w w.heap.size v l) :
 Calls prog 162 #[.agg #[.string a,v]] w (a0X w.heap.size w (.bool (Np.yes (Np.qB l (Np.eM ⟨a.data.toList,l⟩))))):=by
 obtain⟨B,hB⟩:=acJ (Np.eM ⟨a.data.toList,l⟩);have ko:B.length=l.length:=by rw[<-hB];exact Np.tW _
 obtain⟨r,hr⟩:=acJ (Np.yes (Np.qB l (Np.eM ⟨a.data.toList,l⟩)));rw[hr];rw[hB] at hr;have HR:=jq hr;have fY:=jq ko;have fX:=jq hB;have HD:=jq hd;have HO:=jq ho;have HV:=jq hv;obtain⟨A,c,rfl,bq,bM⟩:=ak hd;clear hr hd ho hv hB ko;have HW:Hid (∀ o,Below w.heap.size w (w.alloc o)):=jq (λo=>(vQ _ w).alloc (bQ _) _);go_enter func162,ntmps162;go_wp2_with fail;refine (RX a _ l bW HO.out HV.out _ (HD.out.later bj cC (HW.out _))).mono ?_;rintro e w1 ⟨bv,rfl,iP,ay⟩;have eO:w.heap.size<w1.heap.size:=by have:=ay.size;simp at this;omega
 have c1':w1.cell? ⟨w.heap.size,1,none⟩=some (.slice A l.length c):=by rw[ay.cell (by simp)];go_simp
 have av:=jq ((HW.out _).trans (ay.mono (by simp)));obtain⟨A2,c2,rfl,fI,eU⟩:=ak iP;rw[fX.out] at fI eU iP |-;rw[fY.out] at fI eU iP |-;have pD:=jq iP;clear ay iP;go_wp2_with fail;go_loopw [4] (λi wr=>∃ k:Nat,k<=l.length/\i = .int .i64 k/\Hid (Below w1.heap.size w1 wr)/\Hid (∀ j x b,j<k->l[j]?=some x->B[j]?=some b->Np.kI x.set b)) (λi _=>l.length - (intOf i).toNat)
 case atStart=>exact⟨0,jQ _,rfl,jq (vQ _ _),jq (λj x b hj=>by omega)⟩
 case round=>
  obtain⟨k,hk,rfl,HB,HA⟩:=hrel;have an:=HB.out.size;have aG:=acZ av HB.out;have d1:wr.cell? ⟨w.heap.size,1,none⟩=some (.slice A l.length c):=aaJ HB.out c1';by_cases ab:k<l.length
  ·obtain⟨x,aa⟩:∃ x,l[k]?=some x:=⟨_,aQ ab⟩;obtain⟨bb,dL⟩:∃ bb,B[k]?=some bb:=⟨_,aQ (by rw[fY.out];omega)⟩;obtain⟨b,o,c',sn,dv,sv,hA,bA,_,aw,cB,aK,aS,e0,e1,e2,e3,e4⟩:=fE (HD.out.keep bj aG.out) aa
   cases hA
   obtain⟨b2,o2,sb,rfl,y9,mh,Kl,g0⟩:=qz (pD.out.keep mY HB.out) dL;have HN:Hid (Np.kI x.set bb->∀ j x b,j<k+1->l[j]?=some x->B[j]?=some b->Np.kI x.set b):=jq (λh j x b hj hx hb=>by
    by_cases e:j=k
    ·subst e;rw[aa] at hx;rw[dL] at hb;cases hx;cases hb;exact h
    ·exact HA.out j x b (by omega) hx hb)
   have HF:Hid (¬ Np.kI x.set bb->r=false):=jq (λh=>by
    rw[<-HR.out];exact Np.aF λq=>h (q k _ _ aa dL))
   clear aa dL;obtain⟨Ad,cd,rfl,_,_⟩:=ak aK;obtain⟨As,cs,rfl,_,_⟩:=ak aS;have hcell:wr.cell? ⟨w.heap.size,1,none⟩=some (.slice (some ⟨b,o,none⟩) l.length c):=aaJ HB.out c1';have dK:w.heap.size<wr.heap.size:=by omega
   have ay:b<wr.heap.size:=by omega
   have ac:b2<wr.heap.size:=by omega
   have aY:Hid (∀ o,Below w1.heap.size w1 (wr.alloc o)):=jq (λo=>HB.out.alloc HB.out.size _);have nf:Hid (∀ o,Below w.heap.size w (wr.alloc o)):=jq (λo=>aG.out.alloc (by omega) _);have bJ:(0:Int)<=(k:Int):=by omega
   have bI:(k:Int)<(l.length:Int):=by omega
   have aT:=jq aw;have ft:=jq mh;obtain⟨ty,dT⟩:=acJ x.set.type;have dF:=jq dT;rw[dT] at e1;clear aw mh aK aS dT e4;by_cases eq:bb = []
   ·obtain rfl:sb=⟨#[]⟩:=j9 (by rw[ft.out,eq]);have bH:=jq (Og (x:=x.set) eq);clear eq;by_cases h6:ty=6
    ·have HX:Hid (r=false):=jq (HF.out λh=>(bH.out.1 h) (dF.out.trans h6));subst h6;go_wp2_with fail;go_quiet (fail);obtain⟨w2,aj⟩:=acJ ((wr.alloc (.cells #[.string sn,.int .i64 6,.int .i64 x.set.life,.slice Ad x.set.data.length cd] 26)).drewN nq);rw[aj];have di:Below wr.heap.size wr w2:=by rw[<-aj];exact below_drewN ((vQ _ _).alloc (bQ _) _) _
     have p1:w2.cell? ⟨wr.heap.size,1,none⟩=some (.int .i64 6):=by rw[<-aj];simp[go_sem]
     have g02:w2.cell? ⟨b2,o2+k,none⟩=some (.string ⟨#[]⟩):=aaJ di g0;have fG:=jq (HB.out.trans (di.mono HB.out.size));have pV:=acZ aG di;clear di aj g0;go_wp2_with fail;go_ret;exact⟨ag HX.out.symm,pV.out⟩
    ·have HX:=jq (HN.out (bH.out.2 λh=>h6 (dF.out.symm.trans h)));have h6':(ty == 6)=false:=by simpa using h6
     clear h6;go_wp2_with fail;go_quiet (fail);obtain⟨w2,aj⟩:=acJ ((wr.alloc (.cells #[.string sn,.int .i64 ty,.int .i64 x.set.life,.slice Ad x.set.data.length cd] 26)).drewN nq);rw[aj];have di:Below wr.heap.size wr w2:=by rw[<-aj];exact below_drewN ((vQ _ _).alloc (bQ _) _) _
     have p1:w2.cell? ⟨wr.heap.size,1,none⟩=some (.int .i64 ty):=by rw[<-aj];simp[go_sem]
     have g02:w2.cell? ⟨b2,o2+k,none⟩=some (.string ⟨#[]⟩):=aaJ di g0;have fG:=jq (HB.out.trans (di.mono HB.out.size));have pV:=acZ aG di;clear di aj g0;go_wp2_with fail;go_roundw
     case rel=>exact⟨k+1,by omega,by go_num,jq fG.out,jq HX.out⟩
     case measure=>simp[intOf] <;> omega
   ·have xi:(sb.toList == [])=false:=by rw[dQ,ft.out];simpa using eq
    by_cases jK:bb=x.set.name
    ·have Jy:(sn.toList == sb.toList)=true:=by rw[dQ,dQ,ft.out,aT.out];simpa using jK.symm
     have bH:=jq (Oh (x:=x.set) eq jK);clear eq jK;by_cases ht:ty=2\/ty=6\/ty=8\/ty=1
     ·have HX:=jq (HN.out (bH.out.2 (by rw[dF.out];exact ht)));rcases ht with rfl | rfl | rfl | rfl
      ·skip
       go_wp2_with fail;go_quiet (fail);obtain⟨w2,aj⟩:=acJ ((wr.alloc (.cells #[.string sn,.int .i64 2,.int .i64 x.set.life,.slice Ad x.set.data.length cd] 26)).drewN nq);rw[aj];have di:Below wr.heap.size wr w2:=by rw[<-aj];exact below_drewN ((vQ _ _).alloc (bQ _) _) _
       have p1:w2.cell? ⟨wr.heap.size,1,none⟩=some (.int .i64 2):=by rw[<-aj];simp[go_sem]
       have g02:w2.cell? ⟨b2,o2+k,none⟩=some (.string sb):=aaJ di g0;have fG:=jq (HB.out.trans (di.mono HB.out.size));have pV:=acZ aG di;clear di aj g0;go_wp2_with fail;go_roundw
       case rel=>exact⟨k+1,by omega,by go_num,jq fG.out,jq HX.out⟩
       case measure=>simp[intOf] <;> omega
      ·skip
       go_wp2_with fail;go_quiet (fail);obtain⟨w2,aj⟩:=acJ ((wr.alloc (.cells #[.string sn,.int .i64 6,.int .i64 x.set.life,.slice Ad x.set.data.length cd] 26)).drewN nq);rw[aj];have di:Below wr.heap.size wr w2:=by rw[<-aj];exact below_drewN ((vQ _ _).alloc (bQ _) _) _
       have p1:w2.cell? ⟨wr.heap.size,1,none⟩=some (.int .i64 6):=by rw[<-aj];simp[go_sem]
       have g02:w2.cell? ⟨b2,o2+k,none⟩=some (.string sb):=aaJ di g0;have fG:=jq (HB.out.trans (di.mono HB.out.size));have pV:=acZ aG di;clear di aj g0;go_wp2_with fail;go_roundw
       case rel=>exact⟨k+1,by omega,by go_num,jq fG.out,jq HX.out⟩
       case measure=>simp[intOf] <;> omega
      ·skip
       go_wp2_with fail;go_quiet (fail);obtain⟨w2,aj⟩:=acJ ((wr.alloc (.cells #[.string sn,.int .i64 8,.int .i64 x.set.life,.slice Ad x.set.data.length cd] 26)).drewN nq);rw[aj];have di:Below wr.heap.size wr w2:=by rw[<-aj];exact below_drewN ((vQ _ _).alloc (bQ _) _) _
       have p1:w2.cell? ⟨wr.heap.size,1,none⟩=some (.int .i64 8):=by rw[<-aj];simp[go_sem]
       have g02:w2.cell? ⟨b2,o2+k,none⟩=some (.string sb):=aaJ di g0;have fG:=jq (HB.out.trans (di.mono HB.out.size));have pV:=acZ aG di;clear di aj g0;go_wp2_with fail;go_roundw
       case rel=>exact⟨k+1,by omega,by go_num,jq fG.out,jq HX.out⟩
       case measure=>simp[intOf] <;> omega
      ·skip
       go_wp2_with fail;go_quiet (fail);obtain⟨w2,aj⟩:=acJ ((wr.alloc (.cells #[.string sn,.int .i64 1,.int .i64 x.set.life,.slice Ad x.set.data.length cd] 26)).drewN nq);rw[aj];have di:Below wr.heap.size wr w2:=by rw[<-aj];exact below_drewN ((vQ _ _).alloc (bQ _) _) _
       have p1:w2.cell? ⟨wr.heap.size,1,none⟩=some (.int .i64 1):=by rw[<-aj];simp[go_sem]
       have g02:w2.cell? ⟨b2,o2+k,none⟩=some (.string sb):=aaJ di g0;have fG:=jq (HB.out.trans (di.mono HB.out.size));have pV:=acZ aG di;clear di aj g0;go_wp2_with fail;go_roundw
       case rel=>exact⟨k+1,by omega,by go_num,jq fG.out,jq HX.out⟩
       case measure=>simp[intOf] <;> omega
     ·have HX:Hid (r=false):=jq (HF.out λh=>ht (by have:=bH.out.1 h;rwa [dF.out] at this));have t1:(ty != 2)=true:=by simp;omega
      have t2:(ty != 6)=true:=by simp;omega
      have t3:(ty != 8)=true:=by simp;omega
      have t4:(ty != 1)=true:=by simp;omega
      clear ht;go_wp2_with fail;go_quiet (fail);obtain⟨w2,aj⟩:=acJ ((wr.alloc (.cells #[.string sn,.int .i64 ty,.int .i64 x.set.life,.slice Ad x.set.data.length cd] 26)).drewN nq);rw[aj];have di:Below wr.heap.size wr w2:=by rw[<-aj];exact below_drewN ((vQ _ _).alloc (bQ _) _) _
      have p1:w2.cell? ⟨wr.heap.size,1,none⟩=some (.int .i64 ty):=by rw[<-aj];simp[go_sem]
      have g02:w2.cell? ⟨b2,o2+k,none⟩=some (.string sb):=aaJ di g0;have fG:=jq (HB.out.trans (di.mono HB.out.size));have pV:=acZ aG di;clear di aj g0;go_wp2_with fail;go_ret;exact⟨ag HX.out.symm,pV.out⟩
    ·have Jy:(sn.toList == sb.toList)=false:=by rw[dQ,dQ,ft.out,aT.out];simpa using λe:x.set.name=bb=>jK e.symm
     have bH:=jq (Oi (x:=x.set) eq jK);clear eq jK;by_cases ht:ty=1
     ·have HX:=jq (HN.out (bH.out.2 (by rw[dF.out];exact ht)));subst ht;go_wp2_with fail;go_quiet (fail);obtain⟨w2,aj⟩:=acJ ((wr.alloc (.cells #[.string sn,.int .i64 1,.int .i64 x.set.life,.slice Ad x.set.data.length cd] 26)).drewN nq);rw[aj];have di:Below wr.heap.size wr w2:=by rw[<-aj];exact below_drewN ((vQ _ _).alloc (bQ _) _) _
      have p1:w2.cell? ⟨wr.heap.size,1,none⟩=some (.int .i64 1):=by rw[<-aj];simp[go_sem]
      have g02:w2.cell? ⟨b2,o2+k,none⟩=some (.string sb):=aaJ di g0;have fG:=jq (HB.out.trans (di.mono HB.out.size));have pV:=acZ aG di;clear di aj g0;go_wp2_with fail;go_roundw
      case rel=>exact⟨k+1,by omega,by go_num,jq fG.out,jq HX.out⟩
      case measure=>simp[intOf] <;> omega
     ·have HX:Hid (r=false):=jq (HF.out λh=>ht (by have:=bH.out.1 h;rwa [dF.out] at this));have t4:(ty != 1)=true:=by simpa using ht
      clear ht;go_wp2_with fail;go_quiet (fail);obtain⟨w2,aj⟩:=acJ ((wr.alloc (.cells #[.string sn,.int .i64 ty,.int .i64 x.set.life,.slice Ad x.set.data.length cd] 26)).drewN nq);rw[aj];have di:Below wr.heap.size wr w2:=by rw[<-aj];exact below_drewN ((vQ _ _).alloc (bQ _) _) _
      have p1:w2.cell? ⟨wr.heap.size,1,none⟩=some (.int .i64 ty):=by rw[<-aj];simp[go_sem]
      have g02:w2.cell? ⟨b2,o2+k,none⟩=some (.string sb):=aaJ di g0;have fG:=jq (HB.out.trans (di.mono HB.out.size));have pV:=acZ aG di;clear di aj g0;go_wp2_with fail;go_ret;exact⟨ag HX.out.symm,pV.out⟩
  ·go_wp2_with fail;go_ret;refine⟨ag ?_,aG.out⟩;rw[<-HR.out];exact (Np.bh λi x b hx hb=>HA.out i x b (by have:=(cQ.1 hx).1;omega) hx hb).symm
def oU(w:World)(B:Nat)(xs:List Value):Prop:=∀ j x,xs[j]?=some x->w.cell? ⟨B,j,none⟩=some x/\w.frozen? ⟨B,j,none⟩=false
theorem oU.keep{w w':World}{B n:Nat}{xs:List Value}(h:oU w B xs)(hb:Below n w w')(hB:B<n):oU w' B xs:=λj x hx=>by
 obtain⟨h3,h4⟩:=h j x hx;exact⟨(hb.cell (p:=⟨B,j,none⟩) hB).trans h3,(hb.frozen (p:=⟨B,j,none⟩) hB).trans h4⟩
theorem oU.store{w:World}{B:Nat}{xs:List Value}(h:oU w B xs){k:Nat}(hk:k<xs.length)(u:Value):oU (w.setCell ⟨B,k,none⟩ u) B (xs.set k u):=λj x hx=>by
 rw[List.getElem?_set] at hx;by_cases Cj:k=j
 ·subst Cj;rw[Qb rfl,Qb hk] at hx
  cases hx
  obtain⟨h3,h4⟩:=h k _ (aQ hk);exact⟨by simp[World.cell?_setCell_same,h3],(World.frozen?_setCell _ _ _ _).trans h4⟩
 ·rw[Qc Cj] at hx;obtain⟨h3,h4⟩:=h j x hx;exact⟨by rw[xQ _ _ _ _ (by simp <;> omega)];exact h3,(World.frozen?_setCell _ _ _ _).trans h4⟩
def Bk(_:World)(_:Nat)(e:List Value)(x:Bool):Prop:=e = [.bool x]
theorem awY:ep Bk:=λ_ _ _ _ _ h _=>h
theorem oU.slr{w:World}{B:Nat}{xs:List Bool}(h:oU w B (xs.map Value.bool))(hB:B<w.heap.size)(hl:xs.length<=140737488355328):SlR Bk 1 w w.heap.size (.slice (some ⟨B,0,none⟩) xs.length xs.length) xs:=
 ⟨_,_,rfl,bQ _,hl,λj x hx=>by
  obtain⟨h3,_⟩:=h j (.bool x) (by rw[List.getElem?_map,hx];rfl);refine⟨B,0,[.bool x],rfl,hB,rfl,λi v hv=>?_,rfl⟩
  match i,hv with
  | 0,hv=>cases hv;simpa using h3⟩
theorem VY{w:World}{B n c:Nat}{A:Option Addr}{xs:List Bool}(h:SlR Bk 1 w B (.slice A n c) xs){k:Nat}{x:Bool}(hx:xs[k]?=some x):∃ (b o:Nat),A=some ⟨b,o,none⟩/\b<B/\w.cell? ⟨b,o+k,none⟩=some (.bool x):=by
 obtain⟨A',c',hv,hc,_,he⟩:=h;simp only[Value.slice.injEq] at hv;obtain⟨rfl,_,_⟩:=hv;obtain⟨b,o,e,rfl,hb,_,hce,rfl⟩:=he k x hx;exact⟨b,o,rfl,hb,by have:=hce 0 _ rfl;simpa using this⟩
theorem alQ(n j:Nat)(hj:j<n):(madeCells #[Value.bool false] n)[j]?=some (.bool false):=by
 unfold madeCells;simp[hj,Nat.mod_one]
theorem Tryz.infoBoolZ:(prog.info? 4).map (λi=>(i.zero,i.size,i.bytes))=some (some (.bool false),1,1):=by kernel_rfl
theorem alZ(n:Nat)(hn:n<=20000)(w:World):(Instr.makeSlice 237 (.int .i64 n) (.int .i64 n)).run prog w = .ok (.slice (some ⟨w.heap.size,0,none⟩) n n) (w.alloc (.cells (madeCells #[Value.bool false] n) 4)):=by
 obtain⟨i,hi,hp⟩:=Option.map_eq_some_iff.1 Tryz.infoBoolZ;simp only[Prod.mk.injEq] at hp;obtain⟨hz,hs,hb⟩:=hp
 have:=run_make (P:=prog) w 237 4 i (.bool false) underlying237 hi hz .i64 .i64 n n (by omega) (Int.le_refl _) (by rw[hb];omega) (by omega)
 rw[hs] at this;simpa [Value.cells] using this
def Np.od(x:Np.Signed)(b:List UInt8):Bool:=b == []||(x.set.type != 2&&x.set.type != 1)
def Np.mU(l:List Np.Signed)(B:List (List UInt8)):List Bool:=(l.zip B).map λp=>Np.od p.1 p.2
theorem Rw{l:List Np.Signed}{B:List (List UInt8)}{k:Nat}{x:Np.Signed}{b:List UInt8}(hx:l[k]?=some x)(hb:B[k]?=some b):(Np.mU l B)[k]?=some (Np.od x b):=by
 unfold Np.mU;rw[List.getElem?_map,(List.getElem?_zip_eq_some (z:=(x,b))).2 ⟨hx,hb⟩];rfl
theorem aDJ(a:ByteArray)(v:Value)(l:List Np.Signed)(bW:l.length<=20000)(ho:Np.InOrder ⟨a.data.toList,l⟩)(hv:∀ x∈l,Np.aD x.set.name=true)(w:World)(hd:SlR bO 5 w w.heap.size v l) :
 Calls prog 238 #[.agg #[.string a,v]] w (yg Bk 1 w (Np.mU l (Np.eM ⟨a.data.toList,l⟩))):=by
 obtain⟨B,hB⟩:=acJ (Np.eM ⟨a.data.toList,l⟩);have ko:B.length=l.length:=by rw[<-hB];exact Np.tW _
 have HB':=jq hB;have fY:=jq ko;have iE:Hid ((Np.mU l B).length=l.length):=jq (by unfold Np.mU;rw[List.length_map,List.length_zip,ko,Nat.min_self]);have HD:=jq hd;have HO:=jq ho;have HV:=jq hv;obtain⟨A,c,rfl,bq,bM⟩:=ak hd;rw[hB];clear hd ho hv hB ko;have HW:Hid (∀ o,Below w.heap.size w (w.alloc o)):=jq (λo=>(vQ _ w).alloc (bQ _) _);go_enter func238,ntmps238;go_wp2_with fail;refine (RX a _ l bW HO.out HV.out _ (HD.out.later bj cC (HW.out _))).mono ?_;rintro e w1 ⟨bv,rfl,iP,ay⟩;have eO:w.heap.size<w1.heap.size:=by have:=ay.size;simp at this;omega
 have c1':w1.cell? ⟨w.heap.size,1,none⟩=some (.slice A l.length c):=by rw[ay.cell (by simp)];go_simp
 have av:=jq ((HW.out _).trans (ay.mono (by simp)));obtain⟨A2,c2,rfl,fI,eU⟩:=ak iP;rw[HB'.out] at fI eU iP |-;rw[fY.out] at fI eU iP |-;have pD:=jq iP;clear ay iP;have gY:=alZ l.length bW;have HZ:Hid (∀ j,j<l.length->(madeCells #[Value.bool false] l.length)[j]?=some (.bool false)):=jq (λj hj=>alQ _ _ hj);generalize madeCells #[Value.bool false] l.length=Z at gY HZ;go_wp2_with fail;obtain⟨Bs,p8⟩:=acJ w1.heap.size;obtain⟨w2,aj⟩:=acJ (w1.alloc (.cells Z 4));have ac:Below Bs w1 w2:=by rw[<-aj,<-p8];exact (vQ _ _).alloc (bQ _) _
 have aN:Bs<w2.heap.size:=by rw[<-aj];simp;omega
 have AP:Hid (oU w2 Bs (((Np.mU l B).take 0).map Value.bool++List.replicate (l.length - 0) (Value.bool false))):=jq (λj x hx=>by
  rw[List.take_zero,List.map_nil,List.nil_append,Nat.sub_zero,List.getElem?_replicate] at hx;split at hx
  ·rename_i hj
   cases hx
   refine⟨?_,?_⟩
   ·rw[<-aj,<-p8];simp[go_sem];exact HZ.out j hj
   ·rw[<-aj,<-p8];simp[go_sem]
  ·cases hx)
 have ai:=jq ac;rw[aj,p8];clear aj ac gY HZ;go_loopw [5] (λi wr=>∃ k:Nat,k<=l.length/\i = .int .i64 k/\Hid (Below Bs w1 wr)/\Bs<wr.heap.size/\Hid (oU wr Bs (((Np.mU l B).take k).map Value.bool++List.replicate (l.length - k) (Value.bool false)))) (λi _=>l.length - (intOf i).toNat)
 case atStart=>exact⟨0,jQ _,rfl,ai,aN,AP⟩
 case round=>
  obtain⟨k,hk,rfl,HB,wD,HR⟩:=hrel;have d1:wr.cell? ⟨w.heap.size,1,none⟩=some (.slice A l.length c):=aaJ HB.out c1';have aG:Hid (Below w.heap.size w wr):=acZ av HB.out;have dK:w.heap.size<wr.heap.size:=by omega
  by_cases ab:k<l.length
  ·obtain⟨x,aa⟩:∃ x,l[k]?=some x:=⟨_,aQ ab⟩;obtain⟨bb,dL⟩:∃ bb,B[k]?=some bb:=⟨_,aQ (by rw[fY.out];omega)⟩;obtain⟨b,o,c',sn,dv,sv,hA,bA,_,aw,cB,aK,aS,f0,f1,f2,f3,f4⟩:=fE (HD.out.keep bj aG.out) aa
   cases hA
   obtain⟨b2,o2,sb,rfl,y9,mh,Kl,g0⟩:=qz ((pD.out.keep mY (HB.out.adZ))) dL;have ft:=jq mh;have bJ:(0:Int)<=(k:Int):=by omega
   have bI:(k:Int)<(l.length:Int):=by omega
   have ay:b<wr.heap.size:=by omega
   have bC:Hid (∀ q,Np.od x bb=q->∀ W,oU W Bs (((Np.mU l B).take k).map Value.bool++List.replicate (l.length - k) (Value.bool false))->oU (W.setCell ⟨Bs,k,none⟩ (.bool q)) Bs (((Np.mU l B).take (k+1)).map Value.bool++List.replicate (l.length - (k+1)) (Value.bool false))):=jq (λq hq W hW=>by
    obtain⟨Zg,he⟩:=cQ.1 (Rw aa dL);have h1:=hW.store (k:=k) (by rw[List.length_append,List.length_map,List.length_take,List.length_replicate,iE.out];omega) (.bool q);have h2:(((Np.mU l B).take k).map Value.bool++List.replicate (l.length - k) (Value.bool false)).set k (Value.bool q)=((Np.mU l B).take (k+1)).map Value.bool++List.replicate (l.length - (k+1)) (Value.bool false):=by
     rw[show l.length - k=(l.length - (k+1))+1 by omega,List.replicate_succ,List.set_append_right _ _ (by rw[List.length_map,List.length_take];omega),List.length_map,List.length_take,iE.out,show k - min k l.length=0 by omega,List.set_cons_zero,fQ Zg,he,hq,List.map_append,List.append_assoc];rfl
    rw[h2] at h1;exact h1)
   obtain⟨ij,lL⟩:=HR.out k (Value.bool false) (by rw[oQ (by rw[List.length_map,List.length_take];omega),List.length_map,List.length_take,iE.out,show k - min k l.length=0 by omega,List.getElem?_replicate,Qb (by omega)]);obtain⟨ty,dT⟩:=acJ x.set.type;have g9:Hid (∀ q,(bb == []||(ty != 2&&ty != 1))=q->Np.od x bb=q):=jq (λq h=>by unfold Np.od;rw[dT];exact h);rw[dT] at f1;clear aa dL aw mh aK aS dT f2 f3 f4;by_cases eq:bb = []
   ·obtain rfl:sb=⟨#[]⟩:=j9 (by rw[ft.out,eq]);have HX:=jq (bC.out true (g9.out true (by simp[eq])));clear eq;go_wp2_with fail;go_roundw
    case rel=>exact⟨k+1,by omega,by go_num,jq (HB.out.setCell (by simp) _),by simpa using wD,jq (HX.out _ HR.out)⟩
    case measure=>simp[intOf] <;> omega
   ·have xi:(sb.toList == [])=false:=by rw[dQ,ft.out];simpa using eq
    by_cases h2:ty=2
    ·have HX:=jq (bC.out false (g9.out false (by simp[eq,h2])));subst h2;clear eq;go_wp2_with fail;go_roundw
     case rel=>exact⟨k+1,by omega,by go_num,jq (HB.out.setCell (by simp) _),by simpa using wD,jq (HX.out _ HR.out)⟩
     case measure=>simp[intOf] <;> omega
    ·by_cases h1:ty=1
     ·have HX:=jq (bC.out false (g9.out false (by simp[eq,h1])));subst h1;clear eq;go_wp2_with fail;go_roundw
      case rel=>exact⟨k+1,by omega,by go_num,jq (HB.out.setCell (by simp) _),by simpa using wD,jq (HX.out _ HR.out)⟩
      case measure=>simp[intOf] <;> omega
     ·have HX:=jq (bC.out true (g9.out true (by simp[h1,h2])));have t1:(ty != 2)=true:=by simpa using h2
      have t2:(ty != 1)=true:=by simpa using h1
      clear eq h1 h2;go_wp2_with fail;go_roundw
      case rel=>exact⟨k+1,by omega,by go_num,jq (HB.out.setCell (by simp) _),by simpa using wD,jq (HX.out _ HR.out)⟩
      case measure=>simp[intOf] <;> omega
  ·have HE:Hid (SlR Bk 1 wr wr.heap.size (.slice (some ⟨Bs,0,none⟩) l.length l.length) (Np.mU l B)):=jq (by
    have h1:=HR.out;rw[kQ (by rw[iE.out];omega),show l.length - k=0 by omega,List.replicate_zero,List.append_nil] at h1;have h2:=h1.slr wD (by rw[iE.out];omega);rw[iE.out] at h2;exact h2)
   go_wp2_with fail;go_ret;exact⟨_,rfl,HE.out,aG.out⟩
theorem Rx{x:Np.Signed}{b:List UInt8} : (Np.od x b=false)↔(b≠[]/\(x.set.type=2\/x.set.type=1)):=by
 unfold Np.od;by_cases h0:b = [] <;> by_cases h2:x.set.type=2 <;> by_cases h1:x.set.type=1 <;> simp[h0,h2,h1]
def Np.zW(a:List UInt8)(l:List Np.Signed)(B:List (List UInt8)):Prop:=∀ (k:Nat) (x:Np.Signed) (b:List UInt8),l[k]?=some x->B[k]?=some b->Np.eK a x.sigs/\(Np.od x b=false->x.sigs = [])
theorem aBX(a:ByteArray)(v:Value)(l:List Np.Signed)(bW:l.length<=20000)(ho:Np.InOrder ⟨a.data.toList,l⟩)(hv:∀ x∈l,Np.aD x.set.name=true)(w:World)(hd:SlR bO 5 w w.heap.size v l) :
 Calls prog 163 #[.agg #[.string a,v]] w (a0X w.heap.size w (.bool (Np.yes (Np.zW a.data.toList l (Np.eM ⟨a.data.toList,l⟩))))):=by
 obtain⟨B,hB⟩:=acJ (Np.eM ⟨a.data.toList,l⟩);have ko:B.length=l.length:=by rw[<-hB];exact Np.tW _
 rw[hB];obtain⟨r,hr⟩:=acJ (Np.yes (Np.zW a.data.toList l B));rw[hr];have HR:=jq hr;have HB':=jq hB;have fY:=jq ko;have iE:Hid ((Np.mU l B).length=l.length):=jq (by unfold Np.mU;rw[List.length_map,List.length_zip,ko,Nat.min_self]);have HD:=jq hd;have HO:=jq ho;have HV:=jq hv;obtain⟨A,c,rfl,bq,bM⟩:=ak hd;clear hd ho hv hB ko hr;have HW:Hid (∀ o,Below w.heap.size w (w.alloc o)):=jq (λo=>(vQ _ w).alloc (bQ _) _);go_enter func163,ntmps163;go_wp2_with fail;refine (aDJ a _ l bW HO.out HV.out _ (HD.out.later bj cC (HW.out _))).mono ?_;rintro e w1 ⟨bv,rfl,iP,ay⟩;have eO:w.heap.size<w1.heap.size:=by have:=ay.size;simp at this;omega
 have c0':w1.cell? ⟨w.heap.size,0,none⟩=some (.string a):=by rw[ay.cell (by simp)];go_simp
 have c1':w1.cell? ⟨w.heap.size,1,none⟩=some (.slice A l.length c):=by rw[ay.cell (by simp)];go_simp
 have av:=jq ((HW.out _).trans (ay.mono (by simp)));obtain⟨A2,c2,rfl,fI,eU⟩:=ak iP;rw[HB'.out] at fI eU iP |-;rw[iE.out] at fI eU iP |-;have pD:=jq iP;clear ay iP;go_wp2_with fail;go_loopw [4] (λi wr=>∃ k:Nat,k<=l.length/\i = .int .i64 k/\Hid (Below w1.heap.size w1 wr)/\Hid (∀ (j:Nat) (x:Np.Signed) (b:List UInt8),j<k->l[j]?=some x->B[j]?=some b->Np.eK a.data.toList x.sigs/\(Np.od x b=false->x.sigs = []))) (λi _=>l.length - (intOf i).toNat)
 case atStart=>exact⟨0,jQ _,rfl,jq (vQ _ _),jq (λj x b hj=>by omega)⟩
 case round=>
  obtain⟨k,hk,rfl,HB,HA⟩:=hrel;have an:=HB.out.size;have aG:=acZ av HB.out;have d0:wr.cell? ⟨w.heap.size,0,none⟩=some (.string a):=aaJ HB.out c0';have d1:wr.cell? ⟨w.heap.size,1,none⟩=some (.slice A l.length c):=aaJ HB.out c1';have dK:w.heap.size<wr.heap.size:=by omega
  by_cases ab:k<l.length
  ·obtain⟨x,aa⟩:∃ x,l[k]?=some x:=⟨_,aQ ab⟩;obtain⟨bb,dL⟩:∃ bb,B[k]?=some bb:=⟨_,aQ (by rw[fY.out];omega)⟩;obtain⟨b,o,c',sn,dv,sv,hA,bA,_,aw,cB,aK,aS,f0,f1,f2,f3,f4⟩:=fE (HD.out.keep bj aG.out) aa
   cases hA
   obtain⟨As,cs,rfl,_,_⟩:=ak aS;obtain⟨b2,o2,rfl,y9,g0⟩:=VY (pD.out.keep awY HB.out) (Rw aa dL);have HN:Hid (Np.eK a.data.toList x.sigs->(Np.od x bb=false->x.sigs = [])->∀ (j:Nat) (y:Np.Signed) (b:List UInt8),j<k+1->l[j]?=some y->B[j]?=some b->Np.eK a.data.toList y.sigs/\(Np.od y b=false->y.sigs = [])):=jq (λh1 h2 j y b hj hy hb=>by
    by_cases e:j=k
    ·subst e;rw[aa] at hy;rw[dL] at hb;cases hy;cases hb;exact⟨h1,h2⟩
    ·exact HA.out j y b (by omega) hy hb)
   have HF:Hid (¬ (Np.eK a.data.toList x.sigs/\(Np.od x bb=false->x.sigs = []))->r=false):=jq (λh=>by
    rw[<-HR.out];exact Np.aF λq=>h (q k _ _ aa dL))
   have bJ:(0:Int)<=(k:Int):=by omega
   have bI:(k:Int)<(l.length:Int):=by omega
   have ay:b<wr.heap.size:=by omega
   have ac:b2<wr.heap.size:=by omega
   have k9:∀ (g:bk wr) (p:Addr),p.block<wr.heap.size->g.w.cell? p=wr.cell? p:=λg p h=>g.cell p h;obtain⟨bf,Jv⟩:=acJ (Np.yes (Np.eK a.data.toList x.sigs));have mt:=jq Jv;have bL:∀ g:bk wr,Calls prog 151 #[.slice As x.sigs.length cs,.string a] g.w λe w'=>e = .returned (.bool bf)/\Below g.w.heap.size g.w w':=λg=>by
    rw[<-Jv];exact R1 a _ x.sigs g.w ((aS.keep cg (g.below.adZ)).more cY (by have:=g.size;omega))
   have HC:=jq bL;obtain⟨ow,how⟩:=acJ (Np.od x bb);have iZ:=jq how;rw[how] at g0;clear aa dL aw aK aS Jv bL how f0 f1 f2 f3
   cases bf with
   | false=>
    have HX:Hid (r=false):=jq (HF.out λh=>by have:=Np.bh h.1;rw[mt.out] at this;cases this);go_wp2_with fail;refine a0Z ?_
    repeat (go_big_quiet_step ((go_at_call 151;exact Calls.grow_of (HC.out _))))
    refine wpQuiet_nil ?_;rintro _ ⟨g,rfl⟩;go_wp2_with fail;go_ret;exact⟨ag HX.out.symm,aG.out.trans (g.below.adZ)⟩
   | true=>
    have oG:Hid (Np.eK a.data.toList x.sigs):=jq (Np.fq.1 mt.out)
    cases ow with
    | true=>
     have HX:=jq (HN.out oG.out (λh=>by rw[iZ.out] at h;cases h));go_wp2_with fail;refine a0Z ?_
     repeat (go_big_quiet_step ((go_at_call 151;exact Calls.grow_of (HC.out _))))
     refine wpQuiet_nil ?_;rintro _ ⟨g,rfl⟩;go_wp2_with fail;go_roundw
     case rel=>exact⟨k+1,by omega,by go_num,acZ HB g.below,jq HX.out⟩
     case measure=>simp[intOf] <;> omega
    | false=>
     obtain⟨N,hN⟩:=acJ x.sigs.length;have cO:=jq hN;rw[hN] at f4 HC;clear hN;by_cases h0:N=0
     ·have HX:=jq (HN.out oG.out (λ_=>rQ (cO.out.trans h0)));subst h0;go_wp2_with fail;refine a0Z ?_
      repeat (go_big_quiet_step ((go_at_call 151;exact Calls.grow_of (HC.out _))))
      refine wpQuiet_nil ?_;rintro _ ⟨g,rfl⟩;go_wp2_with fail;go_roundw
      case rel=>exact⟨k+1,by omega,by go_num,acZ HB g.below,jq HX.out⟩
      case measure=>simp[intOf] <;> omega
     ·have HX:Hid (r=false):=jq (HF.out λh=>h0 (by have:=h.2 iZ.out;rw[this] at cO;exact cO.out.symm));have hp:decide ((0:Int)<(N:Int))=true:=by simp;omega
      have hp2:decide (0<N)=true:=by simp;omega
      clear h0;go_wp2_with fail;refine a0Z ?_
      repeat (go_big_quiet_step ((go_at_call 151;exact Calls.grow_of (HC.out _))))
      refine wpQuiet_nil ?_;rintro _ ⟨g,rfl⟩;go_wp2_with fail;go_ret;exact⟨ag HX.out.symm,aG.out.trans (g.below.adZ)⟩
  ·go_wp2_with fail;go_ret;refine⟨ag ?_,aG.out⟩;rw[<-HR.out];exact (Np.bh λi x b hx hb=>HA.out i x b (by have:=(cQ.1 hx).1;omega) hx hb).symm
end
end Go.Proofs.YtfnopgdcaanaiaaGreatDoor
