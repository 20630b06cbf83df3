/- Parts of the proof. No condition. -/
import Derived.Lib.LazyBuf
import Derived.Laws.OwnMore
import Derived.Test.YtbfbobfbgabjiaaGreatDoorM18
set_option linter.all false
set_option maxRecDepth 100000
set_option maxHeartbeats 8000000
namespace Go.Proofs.YtbfbobfbgabjiaaGreatDoor
open Go.Proofs.Tryz
section
open Go.RowKit Go.Shelf
theorem Nt{ps:List Np.Span}{s:Np.Span}(hp:Np.mM ps)(hs:s.frm<s.til):Np.bq (Np.bq ps ++ [s])=Np.bq (ps ++ [s]):=by
 obtain⟨h1,h2⟩:=Np.tB hp;refine Np.Ns (λx hx=>?_) (λx hx=>?_) λt=>?_
 ·rcases List.mem_append.1 hx with hx | hx
  ·exact h1.full x hx
  ·rw[List.mem_singleton] at hx; subst hx; exact hs
 ·rcases List.mem_append.1 hx with hx | hx
  ·exact hp x hx
  ·rw[List.mem_singleton] at hx; subst hx; exact hs
 ·rw[Np.yq,Np.yq,h2]
theorem Hx{W:World}{b:Nat}{f u:Int}(hb:b<W.heap.size)(c0:W.cell? ⟨b,0,none⟩=some (.int .i64 f))(c1:W.cell? ⟨b,1,none⟩=some (.int .i64 u)):SlR cV 2 W W.heap.size (.slice (some ⟨b,0,none⟩) 1 1) [⟨f,u⟩]:=by
 refine⟨some ⟨b,0,none⟩,1,rfl,by simp,by simp,λi x hx=>?_⟩
 match i,hx with
 | 0,hx=>
  simp at hx; subst hx;refine⟨b,0,[.int .i64 f,.int .i64 u],rfl,hb,rfl,λj v hj=>?_,rfl⟩
  match j,hj with
  | 0,hj=>simp at hj; subst hj; exact c0
  | 1,hj=>simp at hj; subst hj; exact c1
  | j+2,hj=>simp at hj
 | i+1,hx=>simp at hx
def gI(l:List Np.Copy)(zone:List UInt8)(k:Int):List Np.Span:=(l.filter λc=>decide (c.host=k)&&(c.zone.apex == zone)).map Np.im
theorem Uv(l:List Np.Copy)(x:Np.Copy)(zone:List UInt8)(k:Int):gI (l ++ [x]) zone k=if decide (x.host=k)&&(x.zone.apex == zone) then gI l zone k ++ [Np.im x] else gI l zone k:=by
 unfold gI;rw[List.filter_append]
 cases h:decide (x.host=k)&&(x.zone.apex == zone) <;> simp[h]
theorem Uw{l:List Np.Copy}(h:Np.kR l)(zone:List UInt8)(k:Int):Np.mM (gI l zone k):=λs hs=>by
 obtain⟨c,hc,rfl⟩:=List.mem_map.1 hs;exact h c (List.mem_filter.1 hc).1
theorem ME(l:List Np.Copy)(zone:List UInt8)(k:Int):(gI l zone k).length<=l.length:=by
 unfold gI;rw[List.length_map];exact List.length_filter_le _ _
theorem V9(e:List Value)(h:Np.Hist)(hf:Np.kR h.copies)(h5:h.copies.length<=500)(z:ByteArray)(kk:Int)(w:World)(hh:bw w w.heap.size e h) :
 Calls prog 72 #[.agg e.toArray,.string z,.int .i64 kk] w λe w'=>∃ v',e = .returned v'/\aI w.heap.size w' v' (Np.qy h.copies z.data.toList kk)/\Below w.heap.size w w':=by
 obtain⟨hv,cv,s,dv,cj,rfl,_,_,h3,h4,h5',h6⟩:=hh;obtain⟨hosts,copies,⟨name,ty,life,data⟩,hints,drift,stop⟩:=h;dsimp only at h3 h4 h5' h6 hf h5 |-;have HF:=jq hf;have HD:=jq h4;obtain⟨A1,c1,rfl,_,_⟩:=ag h3;obtain⟨A2,c2,rfl,_,_⟩:=ag h4;obtain⟨A3,c3,rfl,_,_⟩:=ag h5';obtain⟨A4,c4,rfl,_,_⟩:=ag h6;clear h3 h4 h5' h6 hf;obtain⟨n1,aJ⟩:∃ n,hosts.length=n:=⟨_,rfl⟩;obtain⟨n2,aK⟩:∃ n,copies.length=n:=⟨_,rfl⟩;obtain⟨n3,bk⟩:∃ n,data.length=n:=⟨_,rfl⟩;obtain⟨n4,bl⟩:∃ n,hints.length=n:=⟨_,rfl⟩;rw[aJ,aK,bk,bl];rw[aK] at HD h5;have er:=jq aK;clear aJ aK bk bl;obtain⟨X,hX⟩:∃ X,w.heap.size=X:=⟨_,rfl⟩;have gF:=jq hX;obtain⟨W1,ae⟩:∃ W1,w.alloc (.cells #[.slice A1 n1 c1,.slice A2 n2 c2,.string s,.int .i64 ty,.int .i64 life,.slice A3 n3 c3,.slice A4 n4 c4,.int .i64 drift,.int .i64 stop] 29)=W1:=⟨_,rfl⟩;have aw:Below w.heap.size w W1:=by rw[<-ae]; exact (vQ _ _).alloc (bQ _) _
 have eG:W1.heap.size=w.heap.size+1:=by rw[<-ae]; simp
 have k1:W1.cell? ⟨X,1,none⟩=some (.slice A2 n2 c2):=by rw[<-ae,<-hX]; simp[go_sem]
 rw[hX] at aw eG HD |-;have ay:=jq aw;clear aw;go_enter func72,ntmps72;go_wp2_with fail;clear ae hX;go_loopw [7,8] (λvo i wr=>∃ (k:Nat),k<=n2/\i = .int .i64 k/\X<wr.heap.size/\Hid (Below (X+1) W1 wr)/\Hid (aI X wr vo (Np.bq (gI (copies.take k) z.data.toList kk)))) (λ_ i _=>n2 - (intOf i).toNat)
 case atStart=>exact⟨0,jQ _,rfl,by omega,jq (vQ _ _),jq (by rw[List.take_zero]; unfold gI; rw[List.filter_nil,List.map_nil,Np.N4]; exact aI.nil _ _)⟩
 case round=>
  obtain⟨k,hk,rfl,uE,aO,HO⟩:=hrel;have HB:=jq (ay.out.trans (aO.out.mono (by omega)));have q1:=(cl aO.out (by omega)).trans k1;by_cases ab:k<n2
  ·obtain⟨x,ac⟩:∃ x,copies[k]?=some x:=⟨_,aQ (by rw[er.out]; exact ab)⟩;obtain⟨b,o,sn,vz,rfl,bg,az,bL,bX,f0,f1,f2,f3,f4⟩:=nC (HD.out.keep fk HB.out) ac;obtain⟨Az,cz,rfl,_,_⟩:=ag bX;obtain⟨nz,iq⟩:∃ nz,x.zone.sets.length=nz:=⟨_,rfl⟩;rw[iq] at f4;have HT:Hid (gI (copies.take (k+1)) z.data.toList kk=if decide (x.host=kk)&&(x.zone.apex == z.data.toList) then gI (copies.take k) z.data.toList kk ++ [Np.im x] else gI (copies.take k) z.data.toList kk):=jq (by
    obtain⟨hl,he⟩:=cQ.1 ac;rw[fQ hl,he];exact Uv _ _ _ _)
   have uX:Hid (x.frm<x.til):=jq (HF.out x (gQ ac));have qY:Hid (Np.mM (gI (copies.take k) z.data.toList kk)):=jq (Uw (λc hc=>HF.out c (List.mem_of_mem_take hc)) _ _);have lq:Hid ((gI (copies.take k) z.data.toList kk).length<=500):=jq (by have:=ME (copies.take k) z.data.toList kk; rw[List.length_take] at this; omega);have aS:=jq az;obtain⟨w2,ai⟩:∃ w2,wr.alloc (.cells #[.int .i64 x.host,.int .i64 x.frm,.int .i64 x.til,.string sn,.slice Az nz cz] 58)=w2:=⟨_,rfl⟩;have aN:w2.heap.size=wr.heap.size+1:=by rw[<-ai]; simp
   have aa:Below wr.heap.size wr w2:=by rw[<-ai]; exact (vQ _ _).alloc (bQ _) _
   have p0:w2.cell? ⟨wr.heap.size,0,none⟩=some (.int .i64 x.host):=by rw[<-ai]; simp[go_sem]
   have p1:w2.cell? ⟨wr.heap.size,1,none⟩=some (.int .i64 x.frm):=by rw[<-ai]; simp[go_sem]
   have p2:w2.cell? ⟨wr.heap.size,2,none⟩=some (.int .i64 x.til):=by rw[<-ai]; simp[go_sem]
   have p3:w2.cell? ⟨wr.heap.size,3,none⟩=some (.string sn):=by rw[<-ai]; simp[go_sem]
   have p4:w2.cell? ⟨wr.heap.size,4,none⟩=some (.slice Az nz cz):=by rw[<-ai]; simp[go_sem]
   have I4:=jq (aO.out.trans (aa.mono (by omega)));have aC:=jq (HO.out.keep aa);clear ac az bX iq aa;by_cases h1:x.host=kk
   case neg=>
    have eb:(x.host == kk)=false:=by simpa using h1
    have ed:decide (x.host=kk)=false:=tQ h1;have fV:Hid (gI (copies.take (k+1)) z.data.toList kk=gI (copies.take k) z.data.toList kk):=jq (by rw[HT.out,ed]; rfl);clear h1;go_wp2_with fail;go_roundw
    case rel=>exact⟨k+1,by omega,by go_num,by omega,I4,jq (by rw[fV.out]; exact aC.out)⟩
    case measure=>simp[intOf] <;> omega
   have eb:(x.host == kk)=true:=by simpa using h1
   have ed:decide (x.host=kk)=true:=uQ h1;by_cases h2:sn.toList=z.toList
   case neg=>
    have eb2:(sn.toList == z.toList)=false:=by simpa using h2
    have fV:Hid (gI (copies.take (k+1)) z.data.toList kk=gI (copies.take k) z.data.toList kk):=jq (by
     have:(x.zone.apex == z.data.toList)=false:=by rw[<-aS.out,<-dQ,<-dQ]; exact eb2
     rw[HT.out,this,Bool.and_false]; rfl)
    clear h1 h2;go_wp2_with fail;go_roundw
    case rel=>exact⟨k+1,by omega,by go_num,by omega,I4,jq (by rw[fV.out]; exact aC.out)⟩
    case measure=>simp[intOf] <;> omega
   have eb2:(sn.toList == z.toList)=true:=by simpa using h2
   have fV:Hid (Np.bq (gI (copies.take (k+1)) z.data.toList kk)=Np.bq (Np.bq (gI (copies.take k) z.data.toList kk) ++ [⟨x.frm,x.til⟩])):=jq (by
    have:(x.zone.apex == z.data.toList)=true:=by rw[<-aS.out,<-dQ,<-dQ]; exact eb2
    rw[HT.out,this,ed,Nt qY.out uX.out]; rfl)
   clear h1 h2;obtain⟨w3,el⟩:∃ w3,w2.alloc (.cells #[.int .i64 x.frm,.int .i64 x.til] 114)=w3:=⟨_,rfl⟩;have dP:w3.heap.size=w2.heap.size+1:=by rw[<-el]; simp
   have ah:Below w2.heap.size w2 w3:=by rw[<-el]; exact (vQ _ _).alloc (bQ _) _
   have rS:Hid (SlR cV 2 w3 w3.heap.size (.slice (some ⟨w2.heap.size,0,none⟩) 1 1) [⟨x.frm,x.til⟩]):=jq (Hx (by omega) (by rw[<-el]; simp[go_sem]) (by rw[<-el]; simp[go_sem]));obtain⟨ps,ew⟩:∃ ps,Np.bq (gI (copies.take k) z.data.toList kk)=ps:=⟨_,rfl⟩;have jD:ps.length<=500:=by rw[<-ew]; have:=qv (gI (copies.take k) z.data.toList kk); have:=lq.out; omega
   have xq:Np.mM ps:=by rw[<-ew]; exact (Np.tB qY.out).1.full
   rw[ew] at fV aC;clear ew;have eJ:=jq ((aC.out.keep ah).slr (by omega));have CC:=jq (I4.out.trans (ah.mono (by omega)));obtain⟨ms,hms⟩:∃ ms:List Np.Span,[⟨x.frm,x.til⟩]=ms:=⟨_,rfl⟩;have Fs:ms.length<=10000:=by rw[<-hms]; show 1<=10000; omega
   have HMF:Np.mM ms:=by rw[<-hms]; intro t ht; rw[List.mem_singleton] at ht; subst ht; exact uX.out
   rw[hms] at rS fV;rw[aN] at rS;clear ah hms;have aQQ:ps.length<=10000:=yQ jD (by omega);have HCE:Hid (∀ v v',SlR cV 2 w3 w3.heap.size v ps->SlR cV 2 w3 w3.heap.size v' ms->Calls prog 127 #[v,v'] w3 (λe w'=>∃ v',e = .returned v'/\aI w3.heap.size w' v' (Np.bq (ps++ms))/\Below w3.heap.size w3 w')):=jq (λv v' h h'=>GM v v' ps ms aQQ Fs xq HMF w3 h h');go_wp2_with fail;refine (HCE.out _ _ eJ.out rS.out).mono ?_;rintro e w4 ⟨v4,rfl,kw,am⟩;have ga:=am.size;have H4:=jq (And.intro (kw.weak (show X<=w3.heap.size by omega)) (CC.out.trans (am.mono (by omega))));clear kw am;go_wp2_with fail;go_roundw
   case rel=>exact⟨k+1,by omega,by go_num,by omega,jq H4.out.2,jq (by rw[fV.out]; exact H4.out.1)⟩
   case measure=>simp[intOf] <;> omega
  ·have fe:Hid (copies.take k=copies):=jq (kQ (by rw[er.out]; omega));go_wp2_with fail;go_ret;refine⟨_,rfl,?_,HB.out⟩
   have:=HO.out
   rw[fe.out] at this;exact this
end
section
open Go.RowKit
theorem Dd{α:Type}{R:World->Nat->List Value->α->Prop}{sz n c:Nat}{w:World}{B:Nat}{xs:List α}(h:SlR R sz w B (.slice none n c) xs):n=0/\xs = []:=by
 obtain⟨A',c',hA',_,_,bU⟩:=h;simp only[Value.slice.injEq] at hA';obtain⟨rfl,rfl,rfl⟩:=hA'
 cases xs with
 | nil=>exact⟨rfl,rfl⟩
 | cons x xs=>
  obtain⟨b,o,e,hA,_⟩:=bU 0 x rfl
  cases hA
theorem Tryz.infoCloneDatum:(prog.info? 96).map (λi=>(i.zero,i.size,i.bytes))=some (some (.agg #[.string ⟨#[]⟩,.int .i64 0,.int .i64 0]),3,32):=by kernel_rfl
theorem LV(v:Value)(xs:List Np.Datum)(hl:xs.length<=1000000)(w:World)(h:SlR cG 3 w w.heap.size v xs) :
 Calls prog 44 #[v] w λe w'=>∃ v',e = .returned v'/\bF cG 3 96 w.heap.size w.heap.size w' v' xs/\Below w.heap.size w w':=by
 have HD:=jq h;obtain⟨A,c,rfl,bC,bH⟩:=ag h;clear h;have heq:=run_eql_slice_nil (P:=prog) w 24 96 A xs.length c underlying24;have br:Hid (Below w.heap.size w (w.alloc (.cells #[] 96))):=jq ((vQ _ _).alloc (bQ _) _);obtain⟨i0,hi,ea,bI,aN⟩:=info_parts Tryz.infoCloneDatum
 cases A with
 | none=>
  obtain⟨hn,rfl⟩:=Dd HD.out;rw[List.length_nil] at heq |-;simp only[Option.isNone_none] at heq;go_enter func44,ntmps44;go_wp2_with fail;go_ret;exact⟨_,rfl,bF.nil _,vQ _ _⟩
 | some ad=>
  go_enter func44,ntmps44;go_wp2_with (at_builtin; refine C6 (R:=cG) (sz:=3) _ rfl _ _ 24 rfl w.heap.size w.heap.size 96 i0 (.agg #[.string ⟨#[]⟩,.int .i64 0,.int .i64 0]) 32 underlying24 hi ea bI aN rfl (by decide) _ [] rfl (bF.empty w (bQ _)) (some ad) c w.heap.size xs rfl (HD.out.keep cL br.out) (λr y h=>by (obtain⟨s,_,_,rfl⟩:=h; intro u hu; simp at hu; try rcases hu with rfl | rfl | rfl | rfl | rfl | rfl <;> rfl)) (by simp[maxLen]; omega) (by simp; omega) (by simp) (bQ _) (bQ _) cL dp ?_; intro v3 w3 jw ah qQ; have H3:=jq (And.intro jw (br.out.trans ah)); clear jw ah qQ);go_ret;exact⟨_,rfl,H3.out.1,H3.out.2⟩
theorem Tryz.infoCloneSig:(prog.info? 133).map (λi=>(i.zero,i.size,i.bytes))=some (some (.agg #[.string ⟨#[]⟩,.int .i64 0,.int .i64 0,.int .i64 0,.int .i64 0,.int .u64 0]),6,56):=by kernel_rfl
theorem U0(v:Value)(xs:List Np.Sig)(hl:xs.length<=1000000)(w:World)(h:SlR fT 6 w w.heap.size v xs) :
 Calls prog 92 #[v] w λe w'=>∃ v',e = .returned v'/\bF fT 6 133 w.heap.size w.heap.size w' v' xs/\Below w.heap.size w w':=by
 have HD:=jq h;obtain⟨A,c,rfl,bC,bH⟩:=ag h;clear h;have heq:=run_eql_slice_nil (P:=prog) w 66 133 A xs.length c underlying66;have br:Hid (Below w.heap.size w (w.alloc (.cells #[] 133))):=jq ((vQ _ _).alloc (bQ _) _);obtain⟨i0,hi,ea,bI,aN⟩:=info_parts Tryz.infoCloneSig
 cases A with
 | none=>
  obtain⟨hn,rfl⟩:=Dd HD.out;rw[List.length_nil] at heq |-;simp only[Option.isNone_none] at heq;go_enter func92,ntmps92;go_wp2_with fail;go_ret;exact⟨_,rfl,bF.nil _,vQ _ _⟩
 | some ad=>
  go_enter func92,ntmps92;go_wp2_with (at_builtin; refine C6 (R:=fT) (sz:=6) _ rfl _ _ 66 rfl w.heap.size w.heap.size 133 i0 (.agg #[.string ⟨#[]⟩,.int .i64 0,.int .i64 0,.int .i64 0,.int .i64 0,.int .u64 0]) 56 underlying66 hi ea bI aN rfl (by decide) _ [] rfl (bF.empty w (bQ _)) (some ad) c w.heap.size xs rfl (HD.out.keep gg br.out) (λr y h=>by (obtain⟨s,_,_,rfl⟩:=h; intro u hu; simp at hu; try rcases hu with rfl | rfl | rfl | rfl | rfl | rfl <;> rfl)) (by simp[maxLen]; omega) (by simp; omega) (by simp) (bQ _) (bQ _) gg ij ?_; intro v3 w3 jw ah qQ; have H3:=jq (And.intro jw (br.out.trans ah)); clear jw ah qQ);go_ret;exact⟨_,rfl,H3.out.1,H3.out.2⟩
theorem Tryz.infoCloneHost:(prog.info? 64).map (λi=>(i.zero,i.size,i.bytes))=some (some (.agg #[.string ⟨#[]⟩,.int .i64 0,.int .i64 0]),3,32):=by kernel_rfl
theorem Uh(v:Value)(xs:List Np.Host)(hl:xs.length<=1000000)(w:World)(h:SlR gW 3 w w.heap.size v xs) :
 Calls prog 42 #[v] w λe w'=>∃ v',e = .returned v'/\bF gW 3 64 w.heap.size w.heap.size w' v' xs/\Below w.heap.size w w':=by
 have HD:=jq h;obtain⟨A,c,rfl,bC,bH⟩:=ag h;clear h;have heq:=run_eql_slice_nil (P:=prog) w 22 64 A xs.length c underlying22;have br:Hid (Below w.heap.size w (w.alloc (.cells #[] 64))):=jq ((vQ _ _).alloc (bQ _) _);obtain⟨i0,hi,ea,bI,aN⟩:=info_parts Tryz.infoCloneHost
 cases A with
 | none=>
  obtain⟨hn,rfl⟩:=Dd HD.out;rw[List.length_nil] at heq |-;simp only[Option.isNone_none] at heq;go_enter func42,ntmps42;go_wp2_with fail;go_ret;exact⟨_,rfl,bF.nil _,vQ _ _⟩
 | some ad=>
  go_enter func42,ntmps42;go_wp2_with (at_builtin; refine C6 (R:=gW) (sz:=3) _ rfl _ _ 22 rfl w.heap.size w.heap.size 64 i0 (.agg #[.string ⟨#[]⟩,.int .i64 0,.int .i64 0]) 32 underlying22 hi ea bI aN rfl (by decide) _ [] rfl (bF.empty w (bQ _)) (some ad) c w.heap.size xs rfl (HD.out.keep fF br.out) (λr y h=>by (obtain⟨s,_,_,rfl⟩:=h; intro u hu; simp at hu; try rcases hu with rfl | rfl | rfl | rfl | rfl | rfl <;> rfl)) (by simp[maxLen]; omega) (by simp; omega) (by simp) (bQ _) (bQ _) fF jZ ?_; intro v3 w3 jw ah qQ; have H3:=jq (And.intro jw (br.out.trans ah)); clear jw ah qQ);go_ret;exact⟨_,rfl,H3.out.1,H3.out.2⟩
theorem Tryz.infoCloneInt:(prog.info? 3).map (λi=>(i.zero,i.size,i.bytes))=some (some (.int .i64 0),1,8):=by kernel_rfl
theorem U1(v:Value)(xs:List Int)(hl:xs.length<=1000000)(w:World)(h:SlR ip 1 w w.heap.size v xs) :
 Calls prog 43 #[v] w λe w'=>∃ v',e = .returned v'/\bF ip 1 3 w.heap.size w.heap.size w' v' xs/\Below w.heap.size w w':=by
 have HD:=jq h;obtain⟨A,c,rfl,bC,bH⟩:=ag h;clear h;have heq:=run_eql_slice_nil (P:=prog) w 27 3 A xs.length c underlying27;have br:Hid (Below w.heap.size w (w.alloc (.cells #[] 3))):=jq ((vQ _ _).alloc (bQ _) _);obtain⟨i0,hi,ea,bI,aN⟩:=info_parts Tryz.infoCloneInt
 cases A with
 | none=>
  obtain⟨hn,rfl⟩:=Dd HD.out;rw[List.length_nil] at heq |-;simp only[Option.isNone_none] at heq;go_enter func43,ntmps43;go_wp2_with fail;go_ret;exact⟨_,rfl,bF.nil _,vQ _ _⟩
 | some ad=>
  go_enter func43,ntmps43;go_wp2_with (at_builtin; refine C6 (R:=ip) (sz:=1) _ rfl _ _ 27 rfl w.heap.size w.heap.size 3 i0 (.int .i64 0) 8 underlying27 hi ea bI aN rfl (by decide) _ [] rfl (bF.empty w (bQ _)) (some ad) c w.heap.size xs rfl (HD.out.keep iU br.out) (λr y h=>by (obtain rfl:=h; intro u hu; simp at hu; try rcases hu with rfl | rfl | rfl | rfl | rfl | rfl <;> rfl)) (by simp[maxLen]; omega) (by simp; omega) (by simp) (bQ _) (bQ _) iU nv ?_; intro v3 w3 jw ah qQ; have H3:=jq (And.intro jw (br.out.trans ah)); clear jw ah qQ);go_ret;exact⟨_,rfl,H3.out.1,H3.out.2⟩
theorem bF.formL{α:Type}{R:World->Nat->List Value->α->Prop}{sz:Nat}{e:TypeId}{base B:Nat}{w:World}{v:Value}{xs:List α}(h:bF R sz e base B w v xs):∃ A c,v = .slice A xs.length c:=by
 obtain⟨rows,_,h2,_⟩:=h;exact xX h2
theorem bF.setLow{α:Type}{R:World->Nat->List Value->α->Prop}{sz:Nat}{e:TypeId}{base B:Nat}{w:World}{v:Value}{xs:List α}(h:bF R sz e base B w v xs)(hr:∀ w' r x,R w B r x->R w' B r x){p:Addr}(hp:p.block<base)(u:Value):bF R sz e base B (w.setCell p u) v xs:=by
 obtain⟨rows,h1,h2,h3⟩:=h;exact⟨rows,h1,ownsRow_setCell_below h2 hp u,λi r x hr' hx=>⟨(h3 i r x hr' hx).1,hr _ _ _ (h3 i r x hr' hx).2⟩⟩
theorem bF.sans{α:Type}{R:World->Nat->List Value->α->Prop}{sz:Nat}{e:TypeId}{base B:Nat}{w:World}{v:Value}{xs:List α}(h:bF R sz e base B w v xs){M:Nat->Prop}(hM:∀ k,M k->k<base)(hr:∀ r x,R w B r x->R (bp w M) B r x):bF R sz e base B (bp w M) v xs:=by
 obtain⟨rows,h1,h2,h3⟩:=h;exact⟨rows,h1,fL h2 (λg hg=>j9 (λhm=>by have:=(h2.lt g hg).1; have:=hM g hm; omega)),λi r x hr' hx=>⟨(h3 i r x hr' hx).1,hr _ _ (h3 i r x hr' hx).2⟩⟩
def Ic(n:Nat)(w:World)(dv sv:Value)(d:List Np.Datum)(g:List Np.Sig):Prop:=∀ M:Nat->Prop,(∀ k,M k->k<n)->SlR cG 3 (bp w M) w.heap.size dv d/\SlR fT 6 (bp w M) w.heap.size sv g
theorem LO(s:ByteArray)(ty life:Int)(dv:Value)(d:List Np.Datum)(sv:Value)(g:List Np.Sig)(JQ:d.length<=1000000)(K3:g.length<=1000000)(w:World)(hd:SlR cG 3 w w.heap.size dv d)(hg:SlR fT 6 w w.heap.size sv g) :
 Calls prog 47 #[.agg #[.string s,.int .i64 ty,.int .i64 life,dv,sv]] w λe w'=>∃ dv' sv',e = .returned (.agg #[.string s,.int .i64 ty,.int .i64 life,dv',sv'])/\Ic w.heap.size w' dv' sv' d g/\Below w.heap.size w w':=by
 have HD:=jq hd;have HG:=jq hg;obtain⟨A1,c1,rfl,_,_⟩:=ag hd;obtain⟨A2,c2,rfl,_,_⟩:=ag hg;clear hd hg;obtain⟨n1,aJ⟩:∃ n,d.length=n:=⟨_,rfl⟩;obtain⟨n2,aK⟩:∃ n,g.length=n:=⟨_,rfl⟩;rw[aJ] at HD |-;rw[aK] at HG |-;clear aJ aK;obtain⟨w1,al⟩:∃ w1,(w.alloc (.cells #[.string s,.int .i64 ty,.int .i64 life,.slice A1 n1 c1,.slice A2 n2 c2] 68)).alloc (.cells #[.string ⟨#[]⟩,.int .i64 0,.int .i64 0,.slice none 0 0,.slice none 0 0] 68)=w1:=⟨_,rfl⟩;have aF:Hid (Below w.heap.size w w1):=jq (by rw[<-al]; exact ((vQ _ _).alloc (bQ _) _).alloc (by simp) _);have bI:w1.heap.size=w.heap.size+2:=by rw[<-al]; simp
 obtain⟨X,hX⟩:∃ X,w.heap.size=X:=⟨_,rfl⟩;obtain⟨Y,hY⟩:∃ Y,X+1=Y:=⟨_,rfl⟩;have k0:w1.cell? ⟨X,0,none⟩=some (.string s):=by rw[<-al,<-hX]; simp[go_sem]
 have k1:w1.cell? ⟨X,1,none⟩=some (.int .i64 ty):=by rw[<-al,<-hX]; simp[go_sem]
 have k2:w1.cell? ⟨X,2,none⟩=some (.int .i64 life):=by rw[<-al,<-hX]; simp[go_sem]
 have k3:w1.cell? ⟨X,3,none⟩=some (.slice A1 n1 c1):=by rw[<-al,<-hX]; simp[go_sem]
 have k4:w1.cell? ⟨X,4,none⟩=some (.slice A2 n2 c2):=by rw[<-al,<-hX]; simp[go_sem]
 have kf3:w1.frozen? ⟨X,3,none⟩=false:=by rw[<-al,<-hX]; simp[go_sem]
 have kf4:w1.frozen? ⟨X,4,none⟩=false:=by rw[<-al,<-hX]; simp[go_sem]
 have aU:w1.heap[Y]?=some (.cells #[.string ⟨#[]⟩,.int .i64 0,.int .i64 0,.slice none 0 0,.slice none 0 0] 68):=by
  rw[<-al,<-hY,<-hX]
  have:=heap_alloc_new (w.alloc (.cells #[.string s,.int .i64 ty,.int .i64 life,.slice A1 n1 c1,.slice A2 n2 c2] 68)) (.cells #[.string ⟨#[]⟩,.int .i64 0,.int .i64 0,.slice none 0 0,.slice none 0 0] 68)
  simpa using this
 have gF:=jq hX;go_enter func47,ntmps47;go_wp2_with fail;rw[hX] at HD HG aF bI;clear al hX;refine (LV _ d JQ _ ((HD.out.keep cL aF.out).more dp (by omega))).mono ?_;rintro e w2 ⟨v2,rfl,iY,aa⟩;have aN:=aa.size;replace k0:=(cl aa (by omega)).trans k0;replace k1:=(cl aa (by omega)).trans k1;replace k2:=(cl aa (by omega)).trans k2;replace k3:=(cl aa (by omega)).trans k3;replace k4:=(cl aa (by omega)).trans k4;replace kf3:=(aa.frozen (p:=⟨X,3,none⟩) (by dsimp only; omega)).trans kf3;replace kf4:=(aa.frozen (p:=⟨X,4,none⟩) (by dsimp only; omega)).trans kf4;replace aU:=(aa.block Y (by omega)).trans aU;have aC:=jq iY;have ak:=jq (aF.out.trans (aa.mono (by omega)));obtain⟨A3,c3,rfl⟩:=iY.formL;clear iY aa;obtain⟨n3,bk⟩:∃ n,d.length=n:=⟨_,rfl⟩;rw[bk] at aC |-;obtain⟨w3,el⟩:∃ w3,w2.setCell ⟨X,3,none⟩ (.slice A3 n3 c3)=w3:=⟨_,rfl⟩;have dP:w3.heap.size=w2.heap.size:=by rw[<-el]; simp
 have av:Hid (Below X w w3):=jq (by rw[<-el]; exact ak.out.setCell (bQ _) _);have eJ:Hid (bF cG 3 96 w1.heap.size w1.heap.size w3 (.slice A3 n3 c3) d):=jq (by rw[<-el]; exact aC.out.setLow (λ_ _ _ h=>h) (by dsimp only; omega) _);have j0:w3.cell? ⟨X,0,none⟩=some (.string s):=by rw[<-el]; exact (xQ _ _ _ _ (by simp)).trans k0
 have j1:w3.cell? ⟨X,1,none⟩=some (.int .i64 ty):=by rw[<-el]; exact (xQ _ _ _ _ (by simp)).trans k1
 have j2:w3.cell? ⟨X,2,none⟩=some (.int .i64 life):=by rw[<-el]; exact (xQ _ _ _ _ (by simp)).trans k2
 have j3:w3.cell? ⟨X,3,none⟩=some (.slice A3 n3 c3):=by rw[<-el]; exact World.cell?_setCell_same _ _ _ k3
 have j4:w3.cell? ⟨X,4,none⟩=some (.slice A2 n2 c2):=by rw[<-el]; exact (xQ _ _ _ _ (by simp)).trans k4
 have jf4:w3.frozen? ⟨X,4,none⟩=false:=by rw[<-el]; exact (World.frozen?_setCell _ _ _ _).trans kf4
 have jobj:=(wQ w2 ⟨X,3,none⟩ (.slice A3 n3 c3) Y (by dsimp only; omega)).trans aU;rw[el] at jobj;go_wp2_with fail;clear el k0 k1 k2 k3 k4 kf3 kf4 aU;refine (U0 _ g K3 _ ((HG.out.keep gg av.out).more ij (by omega))).mono ?_;rintro e w4 ⟨v4,rfl,kw,am⟩;have ga:=am.size;replace j0:=(cl am (by omega)).trans j0;replace j1:=(cl am (by omega)).trans j1;replace j2:=(cl am (by omega)).trans j2;replace j3:=(cl am (by omega)).trans j3;replace j4:=(cl am (by omega)).trans j4;replace jf4:=(am.frozen (p:=⟨X,4,none⟩) (by dsimp only; omega)).trans jf4;replace jobj:=(am.block Y (by omega)).trans jobj;have zF:=jq kw;have HP4:=jq (eJ.out.keep cL am (by omega));have bD:=jq (av.out.trans (am.mono (by omega)));obtain⟨A4,c4,rfl⟩:=kw.formL;clear kw am;obtain⟨n4,bl⟩:∃ n,g.length=n:=⟨_,rfl⟩;rw[bl] at zF |-;obtain⟨w5,aX⟩:∃ w5,w4.setCell ⟨X,4,none⟩ (.slice A4 n4 c4)=w5:=⟨_,rfl⟩;have kF:w5.heap.size=w4.heap.size:=by rw[<-aX]; simp
 have ca:Hid (Below X w w5):=jq (by rw[<-aX]; exact bD.out.setCell (bQ _) _);have gZ:Hid (bF fT 6 133 w3.heap.size w3.heap.size w5 (.slice A4 n4 c4) g):=jq (by rw[<-aX]; exact zF.out.setLow (λ_ _ _ h=>h) (by dsimp only; omega) _);have zI:Hid (bF cG 3 96 w1.heap.size w1.heap.size w5 (.slice A3 n3 c3) d):=jq (by rw[<-aX]; exact HP4.out.setLow (λ_ _ _ h=>h) (by dsimp only; omega) _);have m0:w5.cell? ⟨X,0,none⟩=some (.string s):=by rw[<-aX]; exact (xQ _ _ _ _ (by simp)).trans j0
 have m1:w5.cell? ⟨X,1,none⟩=some (.int .i64 ty):=by rw[<-aX]; exact (xQ _ _ _ _ (by simp)).trans j1
 have m2:w5.cell? ⟨X,2,none⟩=some (.int .i64 life):=by rw[<-aX]; exact (xQ _ _ _ _ (by simp)).trans j2
 have m3:w5.cell? ⟨X,3,none⟩=some (.slice A3 n3 c3):=by rw[<-aX]; exact (xQ _ _ _ _ (by simp)).trans j3
 have m4:w5.cell? ⟨X,4,none⟩=some (.slice A4 n4 c4):=by rw[<-aX]; exact World.cell?_setCell_same _ _ _ j4
 have mobj:=(wQ w4 ⟨X,4,none⟩ (.slice A4 n4 c4) Y (by dsimp only; omega)).trans jobj;rw[aX] at mobj;have y0:w5.cell? ⟨Y,0,none⟩=some (.string ⟨#[]⟩):=by simp[World.cell?,mobj]
 have z0:w5.frozen? ⟨Y,0,none⟩=false:=by simp[World.frozen?,mobj]
 have y1:w5.cell? ⟨Y,1,none⟩=some (.int .i64 0):=by simp[World.cell?,mobj]
 have z1:w5.frozen? ⟨Y,1,none⟩=false:=by simp[World.frozen?,mobj]
 have y2:w5.cell? ⟨Y,2,none⟩=some (.int .i64 0):=by simp[World.cell?,mobj]
 have z2:w5.frozen? ⟨Y,2,none⟩=false:=by simp[World.frozen?,mobj]
 have y3:w5.cell? ⟨Y,3,none⟩=some (.slice none 0 0):=by simp[World.cell?,mobj]
 have z3:w5.frozen? ⟨Y,3,none⟩=false:=by simp[World.frozen?,mobj]
 have y4:w5.cell? ⟨Y,4,none⟩=some (.slice none 0 0):=by simp[World.cell?,mobj]
 have z4:w5.frozen? ⟨Y,4,none⟩=false:=by simp[World.frozen?,mobj]
 go_wp2_with fail;obtain⟨W,hW⟩:∃ W,(((((w5.setCell ⟨Y,0,none⟩ (.string s)).setCell ⟨Y,1,none⟩ (.int .i64 ty)).setCell ⟨Y,2,none⟩ (.int .i64 life)).setCell ⟨Y,3,none⟩ (.slice A3 n3 c3)).setCell ⟨Y,4,none⟩ (.slice A4 n4 c4))=W:=⟨_,rfl⟩;have rk:Hid (bF cG 3 96 w1.heap.size w1.heap.size W (.slice A3 n3 c3) d):=jq (by rw[<-hW]; exact (((((zI.out.setLow (λ_ _ _ h=>h) (by dsimp only; omega) _).setLow (λ_ _ _ h=>h) (by dsimp only; omega) _).setLow (λ_ _ _ h=>h) (by dsimp only; omega) _).setLow (λ_ _ _ h=>h) (by dsimp only; omega) _).setLow (λ_ _ _ h=>h) (by dsimp only; omega) _));have gY:Hid (bF fT 6 133 w3.heap.size w3.heap.size W (.slice A4 n4 c4) g):=jq (by rw[<-hW]; exact (((((gZ.out.setLow (λ_ _ _ h=>h) (by dsimp only; omega) _).setLow (λ_ _ _ h=>h) (by dsimp only; omega) _).setLow (λ_ _ _ h=>h) (by dsimp only; omega) _).setLow (λ_ _ _ h=>h) (by dsimp only; omega) _).setLow (λ_ _ _ h=>h) (by dsimp only; omega) _));have ay:Hid (Below X w W):=jq (by rw[<-hW]; exact (((((ca.out.setCell (by dsimp only; omega) _).setCell (by dsimp only; omega) _).setCell (by dsimp only; omega) _).setCell (by dsimp only; omega) _).setCell (by dsimp only; omega) _));have ph:W.heap.size=w5.heap.size:=by rw[<-hW]; simp
 have e0:W.cell? ⟨Y,0,none⟩=some (.string s):=by rw[<-hW]; simp[go_sem,y0]
 have e1:W.cell? ⟨Y,1,none⟩=some (.int .i64 ty):=by rw[<-hW]; simp[go_sem,y1]
 have e2:W.cell? ⟨Y,2,none⟩=some (.int .i64 life):=by rw[<-hW]; simp[go_sem,y2]
 have e3:W.cell? ⟨Y,3,none⟩=some (.slice A3 n3 c3):=by rw[<-hW]; simp[go_sem,y3]
 have e4:W.cell? ⟨Y,4,none⟩=some (.slice A4 n4 c4):=by rw[<-hW]; simp[go_sem,y4]
 rw[hW];refine bodyPost_ret (v:=.agg #[.string s,.int .i64 ty,.int .i64 life,.slice A3 n3 c3,.slice A4 n4 c4]) ?_ rfl ⟨_,_,rfl,λM hM=>?_,by rw[gF.out]; exact ay.out⟩
 ·simp[results,results47,go_sem,e0,e1,e2,e3,e4]
 ·have h1:=(rk.out.sans (M:=M) (λk hk=>by have:=hM k hk; have:=gF.out; omega) (λ_ _ h=>h)).slr dp (by rw[gH]; omega) (by omega);have h2:=(gY.out.sans (M:=M) (λk hk=>by have:=hM k hk; have:=gF.out; omega) (λ_ _ h=>h)).slr ij (by rw[gH]; omega) (by omega);rw[gH] at h1 h2;exact⟨h1,h2⟩
section
variable {P:Program} {ops:Array Oper} {Q:Exit->Act->World->Prop}
theorem VT{w:World}{D A T:List Nat}{dst:Nat->Nat}{val:Nat->Value}{base:List (Nat×Value)}{m p0:Nat}{ds:List Deferred}
 (hw:∀ (i:Nat) (o:Oper),ops[i]?=some o->∀ e∈o.after,e.on<i) (yJ:p0<ops.size) (P3:p0∉D)
 (BJ:∀ (i:Nat) (o:Oper),ops[i]?=some o->i∉D->i∉T->∃ e∈o.after,Region.binds .any e=true/\e.on∉D/\e.on<ops.size)
 (xL:∀ i∈D,i∉A->∃ o:Oper,ops[i]?=some o/\o.dst=some (dst i)) (ab:∀ i∈D,dst i<m) (mT:∀ i∈D,∀ j∈D,j≠i->dst i≠dst j) (jc:∀ i∈D,∀ q∈base,dst i≠q.1)
 (hy:∀ i∈D,i∉A->∀ o:Oper,ops[i]?=some o->∀ a:Act,(∀ q∈base,a.eval (.tmp q.1)=q.2)->(∀ e∈o.after,Region.binds .any e=true->e.on∈D->a.eval (.tmp (dst e.on))=val e.on)->YieldsIn P ops (λw'=>w'=w) o (val i) a)
 (xG:∀ p∈T,∀ f listed a,Held ops D A dst val base m ds (f+1) listed a->p∈Region.ready .any ops listed->wpOp P ops Q p (wpAny P .any ops Q f (listed.setIfInBounds p true)) a w) :
 ∀ f listed a,Held ops D A dst val base m ds f listed a->wpAny P .any ops Q f listed a w:=by
 intro f
 induction f with
 | zero=>intro listed a h; exact absurd h.good (lE.none yJ P3)
 | succ f ih=>
  intro listed a h;have hg:=h.good;refine⟨λh0=>absurd h0 (No hw hg.size p0 yJ (hg.not p0 yJ P3)),λi hi=>?_⟩;obtain⟨hr,o,ho,ax⟩:=mem_ready.1 hi;by_cases hip:i∈T
  ·exact xG i hip f listed a h hi
  ·have gz:i∈D:=Decidable.byContradiction λgz=>by
    obtain⟨e,he,pN,iB,hes⟩:=BJ i o ho gz hip;have h1:=ax e he pN;have h2:=hg.not e.on hes iB;have h3:e.on<listed.size:=by rw[hg.size]; exact hes
    simp[Array.getD,h3] at h1 h2;rw[h1] at h2
    cases h2
   have ar:i∉A:=λhA=>by
    have h1:=h.done i hA;have h3:i<listed.size:=by rw[hg.size]; exact (eQ.1 ho).1
    simp[Array.getD,h3] at h1 hr;rw[h1] at hr; cases hr
   obtain⟨o',ho',hd⟩:=xL i gz ar;rw[ho] at ho'; cases ho';have Ca:∀ e∈o.after,Region.binds .any e=true->e.on∈D->a.eval (.tmp (dst e.on))=val e.on:=λe he pN hD=>hg.val _ hD (ax e he pN);have hq:=lE.step (P:=P) hg gz hr ho hd (ab i gz) (mT i gz) (jc i gz) (hy i gz ar o ho a hg.base Ca);exact wpOp_of_qOp (C:=λw'=>w'=w) rfl (λa' w' hw' h'=>by subst hw'; exact ih _ a' ⟨h',λj hj=>kL (h.done j hj),D4 hi h.clo⟩) hq
end
section
variable {P:Program} {ops:Array Oper} {Q:Exit->Act->World->Prop}
theorem MJ{listed:Array Bool}(hw:∀ (i:Nat) (o:Oper),ops[i]?=some o->∀ e∈o.after,Region.binds .any e=true->e.on<i)(an:listed.size=ops.size):∀ p,p<ops.size->listed.getD p true=false->Region.ready .any ops listed≠[]:=by
 intro p
 induction p using Nat.strongRecOn with
 | _ p ih=>
  intro hp hl;by_cases ax:∀ e∈(ops[p]).after,Region.binds .any e=true->listed.getD e.on false=true
  ·intro h0
   have:p∈Region.ready .any ops listed:=mem_ready.2 ⟨hl,ops[p],pQ hp,ax⟩
   rw[h0] at this
   cases this
  ·simp only[Classical.not_forall] at ax;obtain⟨e,he,hb,hne⟩:=ax;have ab:=hw p _ (pQ hp) e he hb;refine ih e.on ab (by omega) ?_;have h1:e.on<listed.size:=by omega
   simpa [Array.getD,h1] using hne
def Pp(ops:Array Oper):Bool:=(List.range ops.size).all λi=>match ops[i]? with
 | some o=>o.after.all λe=>!Region.binds .any e||decide (e.on<i)
 | none=>true
theorem GB(h:Pp ops=true):∀ (i:Nat) (o:Oper),ops[i]?=some o->∀ e∈o.after,Region.binds .any e=true->e.on<i:=by
 intro i o ho e he hb;unfold Pp at h;rw[List.all_eq_true] at h;have h1:=h i (by rw[List.mem_range]; exact (eQ.1 ho).1);rw[ho] at h1;simp only[Array.all_eq_true_iff_forall_mem,Bool.or_eq_true,Qa,Bool.not_eq_true'] at h1;exact (h1 e he).resolve_left (by rw[hb]; simp)
theorem Na{w:World}{D A:List Nat}{dst:Nat->Nat}{val:Nat->Value}{base:List (Nat×Value)}{m p:Nat}{ds:List Deferred}
 (hw:∀ (i:Nat) (o:Oper),ops[i]?=some o->∀ e∈o.after,Region.binds .any e=true->e.on<i) (hp:p<ops.size) (oj:p∉D)
 (BJ:∀ (i:Nat) (o:Oper),ops[i]?=some o->i∉D->i≠p->∃ e∈o.after,Region.binds .any e=true/\e.on∉D/\e.on<ops.size)
 (xL:∀ i∈D,i∉A->∃ o:Oper,ops[i]?=some o/\o.dst=some (dst i)) (ab:∀ i∈D,dst i<m) (mT:∀ i∈D,∀ j∈D,j≠i->dst i≠dst j) (jc:∀ i∈D,∀ q∈base,dst i≠q.1)
 (hy:∀ i∈D,i∉A->∀ o:Oper,ops[i]?=some o->∀ a:Act,(∀ q∈base,a.eval (.tmp q.1)=q.2)->(∀ e∈o.after,Region.binds .any e=true->e.on∈D->a.eval (.tmp (dst e.on))=val e.on)->YieldsIn P ops (λw'=>w'=w) o (val i) a)
 (xG:∀ f listed a,Held ops D A dst val base m ds (f+1) listed a->p∈Region.ready .any ops listed->wpOp P ops Q p (wpAny P .any ops Q f (listed.setIfInBounds p true)) a w) :
 ∀ f listed a,Held ops D A dst val base m ds f listed a->wpAny P .any ops Q f listed a w:=by
 intro f
 induction f with
 | zero=>intro listed a h; exact absurd h.good (lE.none hp oj)
 | succ f ih=>
  intro listed a h;have hg:=h.good;refine⟨λh0=>absurd h0 (MJ hw hg.size p hp (hg.not p hp oj)),λi hi=>?_⟩;obtain⟨hr,o,ho,ax⟩:=mem_ready.1 hi;by_cases hip:i=p
  ·subst hip; exact xG f listed a h hi
  ·have gz:i∈D:=Decidable.byContradiction λgz=>by
    obtain⟨e,he,pN,iB,hes⟩:=BJ i o ho gz hip;have h1:=ax e he pN;have h2:=hg.not e.on hes iB;have h3:e.on<listed.size:=by rw[hg.size]; exact hes
    simp[Array.getD,h3] at h1 h2;rw[h1] at h2
    cases h2
   have ar:i∉A:=λhA=>by
    have h1:=h.done i hA;have h3:i<listed.size:=by rw[hg.size]; exact (eQ.1 ho).1
    simp[Array.getD,h3] at h1 hr;rw[h1] at hr; cases hr
   obtain⟨o',ho',hd⟩:=xL i gz ar;rw[ho] at ho'; cases ho';have Ca:∀ e∈o.after,Region.binds .any e=true->e.on∈D->a.eval (.tmp (dst e.on))=val e.on:=λe he pN hD=>hg.val _ hD (ax e he pN);have hq:=lE.step (P:=P) hg gz hr ho hd (ab i gz) (mT i gz) (jc i gz) (hy i gz ar o ho a hg.base Ca);exact wpOp_of_qOp (C:=λw'=>w'=w) rfl (λa' w' hw' h'=>by subst hw'; exact ih _ a' ⟨h',λj hj=>kL (h.done j hj),D4 hi h.clo⟩) hq
def In(ops:Array Oper)(R:List Nat)(p:Nat):Bool:=(List.range ops.size).all λi=>i == p||R.contains i||(List.range ops.size).any λj=>decide (i<j)&&!R.contains j&&match ops[j]? with
 | some o=>o.after.any λe=>Region.binds .any e&&e.on == i
 | none=>false
theorem Held.most{D A R:List Nat}{dst:Nat->Nat}{val:Nat->Value}{base:List (Nat×Value)}{m p f:Nat}{ds:List Deferred}{listed:Array Bool}{a:Act}(h:Held ops D A dst val base m ds (f+1) listed a)(hp:p∈Region.ready .any ops listed)(hl:In ops R p=true) :
 ∀ i,i<ops.size->i≠p->i∉R->listed.getD i false=true:=by
 unfold In at hl;rw[List.all_eq_true] at hl;have key:∀ k i,ops.size - i=k->i<ops.size->i≠p->i∉R->listed.getD i false=true:=by
  intro k
  induction k using Nat.strongRecOn with
  | ind k ih=>
   intro i hk his hip ux;have h1:=hl i (by rw[List.mem_range]; exact his);simp only[Bool.or_eq_true,beq_iff_eq,hip,List.contains_iff_mem,ux,false_or,List.any_eq_true,List.mem_range,Bool.and_eq_true,Qa,Bool.not_eq_true'] at h1;obtain⟨j,hj,⟨dL,EZ⟩,h2⟩:=h1;have EZ:j∉R:=λe=>by rw[List.contains_iff_mem.2 e] at EZ; cases EZ
   rw[pQ hj] at h2;simp only[Array.any_eq_true',Bool.and_eq_true,beq_iff_eq] at h2;obtain⟨e,he,hb,rfl⟩:=h2;by_cases xy:j=p
   ·subst xy;obtain⟨_,o,ho,ax⟩:=mem_ready.1 hp;rw[pQ hj] at ho
    cases ho
    exact ax e he hb
   ·exact h.clo j _ (pQ hj) (ih (ops.size - j) (by omega) j rfl hj xy EZ) e he hb
 exact λi hi hne hR=>key _ i rfl hi hne hR
structure Rest(ops:Array Oper)(R D:List Nat)(dst:Nat->Nat)(val:Nat->Value)(base:List (Nat×Value))(m:Nat)(ds:List Deferred)(f:Nat)(listed:Array Bool)(a:Act):Prop where
 defs:a.defers=ds
 size:listed.size=ops.size
 left:listed.toList.count false=f
 val:∀ i∈D,listed.getD i false=true->a.eval (.tmp (dst i))=val i
 base:∀ q∈base,a.eval (.tmp q.1)=q.2
 tmps:a.tmps.size=m
 out:∀ i,i<ops.size->i∉R->listed.getD i false=true
theorem Held.rest{D A R:List Nat}{dst:Nat->Nat}{val:Nat->Value}{base:List (Nat×Value)}{m p f:Nat}{ds:List Deferred}{listed:Array Bool}{a:Act}(h:Held ops D A dst val base m ds (f+1) listed a)(hp:p∈Region.ready .any ops listed)(oj:p∉D)(hl:In ops R p=true) :
 Rest ops R D dst val base m ds f (listed.setIfInBounds p true) a:=by
 have hg:=h.good;obtain⟨gl,o,ho,_⟩:=mem_ready.1 hp;have ew:p<ops.size:=(eQ.1 ho).1;have ej:p<listed.size:=by rw[hg.size]; exact ew
 have ac:listed[p]=false:=by simpa [Array.getD,ej] using gl
 refine⟨hg.defs,by simp[hg.size],?_,λi hi hl=>?_,hg.base,hg.tmps,λi hi hR=>?_⟩
 ·have h1:=hg.left;rw[Array.toList_setIfInBounds,List.count_set (by simpa using ej)];simp[ac,h1]
 ·rcases Dw hl with rfl | hl
  ·exact absurd hi oj
  ·exact hg.val i hi hl
 ·by_cases hip:i=p
  ·subst hip;simp[Array.getD,ej]
  ·exact kL (h.most hp hl i hi hip hR)
theorem VS{w:World}{R D:List Nat}{dst:Nat->Nat}{val:Nat->Value}{a0:Act}{m:Nat}(hm:a0.tmps.size=m)
 (hw:∀ (i:Nat) (o:Oper),ops[i]?=some o->∀ e∈o.after,Region.binds .any e=true->e.on<i) (Ls:∀ i∈R,i∈D) (Q3:∀ i∈D,i<ops.size)
 (xL:∀ i∈R,∃ o:Oper,ops[i]?=some o/\o.dst=some (dst i)) (ab:∀ i∈D,dst i<m) (mT:∀ i∈D,∀ j∈D,j≠i->dst i≠dst j) (hrel:∀ i∈R,∀ o:Oper,ops[i]?=some o->∀ e∈o.after,Region.binds .any e=true->e.on∈D)
 (hy:∀ i∈R,∀ o:Oper,ops[i]?=some o->∀ a:Act,(∀ e∈o.after,Region.binds .any e=true->a.eval (.tmp (dst e.on))=val e.on)->YieldsIn P ops (λw'=>w'=w) o (val i) a)
 (xK:Q .normal (jJ a0 (D.map λi=>(dst i,val i))) w) :
 ∀ f listed a,Rest ops R D dst val (dt a0 m (D.map dst)) m a0.defers f listed a->wpAny P .any ops Q f listed a w:=by
 intro f
 induction f with
 | zero=>
  intro listed a h;have ax:∀ i,i<ops.size->listed.getD i false=true:=λi hi=>by
   have h1:=h.left;have ej:i<listed.size:=by rw[h.size]; exact hi
   rw[List.count_eq_zero] at h1
   cases hb:listed[i] with
   | true=>simp[Array.getD,ej,hb]
   | false=>exact absurd (by rw[<-hb]; simp) h1
  refine⟨pz ax h.size,?_⟩;have e:a=jJ a0 (D.map λi=>(dst i,val i)):=by
   refine NZ (by rw[h.tmps,hm]) h.defs _ (λq hq=>?_) (λq hq=>?_) (λj hj=>?_)
   ·obtain⟨i,hi,rfl⟩:=List.mem_map.1 hq;rw[hm]; exact ab i hi
   ·obtain⟨i,hi,rfl⟩:=List.mem_map.1 hq;exact h.val i hi (ax i (Q3 i hi))
   ·by_cases Cm:j<m
    ·refine aT h.base Cm (λhd=>?_);obtain⟨i,hi,rfl⟩:=List.mem_map.1 hd;exact hj _ (List.mem_map.2 ⟨i,hi,rfl⟩) rfl
    ·have h1:=h.tmps;simp[Act.eval,Array.getD_eq_getD_getElem?,h1,hm,Cm]
  rw[e];exact xK
 | succ f ih=>
  intro listed a h;refine⟨λh0=>?_,λi hi=>?_⟩
  ·have h1:=h.left;have h2:false∈listed.toList:=by rw[<-List.count_pos_iff]; omega
   obtain⟨i,hi,he⟩:=nQ.1 h2;have ej:i<listed.size:=by simpa using hi
   exact absurd h0 (MJ hw h.size i (by rw[<-h.size]; exact ej) (by simpa [Array.getD,ej] using he))
  ·obtain⟨hr,o,ho,ax⟩:=mem_ready.1 hi;have Bt:=(eQ.1 ho).1;have ej:i<listed.size:=by rw[h.size]; exact Bt
   have ux:i∈R:=Decidable.byContradiction λhR=>by
    have h1:=h.out i Bt hR;simp[Array.getD,ej] at h1 hr;rw[h1] at hr; cases hr
   have ac:listed[i]=false:=by simpa [Array.getD,ej] using hr
   obtain⟨o',ho',hd⟩:=xL i ux;rw[ho] at ho'; cases ho';have hq:qOp P ops (λw'=>w'=w) i (Rest ops R D dst val (dt a0 m (D.map dst)) m a0.defers f (listed.setIfInBounds i true)) a:=by
    refine (hy i ux o ho a (λe he hb=>h.val _ (hrel i ux o ho e he hb) (ax e he hb))).qOp ho ?_;rw[hd];refine⟨by simp[Act.put,h.defs],by simp[h.size],?_,λj hj hl=>?_,λq hq=>?_,by simp[Act.put,h.tmps],λj hj hR=>kL (h.out j hj hR)⟩
    ·have h1:=h.left;rw[Array.toList_setIfInBounds,List.count_set (by simpa using ej)];simp[ac,h1]
    ·by_cases hne:i=j
     ·subst hne;exact DN a _ _ (by rw[h.tmps]; exact ab i (Ls i ux))
     ·rw[vE _ _ _ _ (mT i (Ls i ux) j hj (λe=>hne e.symm))];refine h.val j hj ?_;rcases Dw hl with rfl | hl
      ·exact absurd rfl hne
      ·exact hl
    ·rw[vE _ _ _ _ (cx (List.mem_map.2 ⟨i,Ls i ux,rfl⟩) q hq)];exact h.base q hq
   exact wpOp_of_qOp (C:=λw'=>w'=w) rfl (λa' w' hw' h'=>by subst hw'; exact ih _ a' h') hq
end
theorem Gv{sz:Nat} : ∀ (rows:List (List Value)) (i c:Nat) (u:Value) (r:List Value),(∀ q∈rows,q.length=sz)->c<sz->rows[i]?=some r->rows.flatten.set (i * sz+c) u=(rows.set i (r.set c u)).flatten
 | [],i,c,u,r,_,_,h=>by simp at h
 | q::rows,0,c,u,r,hl,hc,h=>by
   have e:q=r:=by simpa using h
   subst e;rw[List.flatten_cons,Nat.zero_mul,Nat.zero_add,List.set_append_left _ _ (by rw[hl q (by simp)]; exact hc),List.set_cons_zero,List.flatten_cons]
 | q::rows,i+1,c,u,r,hl,hc,h=>by
   have hq:=hl q (by simp);have ih:=Gv rows i c u r (λx hx=>hl x (mQ _ hx)) hc (by simpa using h);rw[List.flatten_cons,List.set_append_right _ _ (by rw[hq,Nat.succ_mul]; omega),hq,show (i+1) * sz+c - sz=i * sz+c by rw[Nat.succ_mul]; omega,ih,List.set_cons_succ,List.flatten_cons]
theorem bJ.stored{α:Type}{R:World->Nat->List Value->α->Prop}(hk:dK R)(hs:fu R)(hm:dV R){sz:Nat}{e:TypeId}{base:Nat}{M:Nat->Prop}{w:World}{g n cap:Nat}{xs:List α}(h:bJ R sz e base M w (.slice (some ⟨g,0,none⟩) n cap) xs)(hn:xs.length=n){i c:Nat}{x y:α}(hi:xs[i]?=some x)(hc:c<sz)(u:Value)
 (hR:∀ r,r.length=sz->R (bp w M) w.heap.size r x->R (bp w M) w.heap.size (r.set c u) y):bJ R sz e base M (w.setCell ⟨g,i * sz+c,none⟩ u) (.slice (some ⟨g,0,none⟩) n cap) (xs.set i y):=by
 obtain⟨rows,h1,h2,h3,h4⟩:=h;subst hn;have ej:=(cQ.1 hi).1;have hr:=aQ (show i<rows.length by omega);obtain⟨r,hr'⟩:∃ r,rows[i]?=some r:=⟨_,hr⟩;have hlen:=bF.rows_len (w:=bp w M) (B:=w.heap.size) h1 h4;have pM:M g:=h3 g rfl;have xm:Leaves' M w (w.setCell ⟨g,i * sz+c,none⟩ u) M:=Leaves'.setCell M w pM u;refine⟨rows.set i (r.set c u),by simp[h1],?_,h3,λj q z hq hz=>?_⟩
 ·rw[List.length_set,<-Gv rows i c u r hlen hc hr'];exact (World.ownsRow.stored h2 (i * sz+c) u).1
 ·rw[List.getElem?_set] at hq hz;by_cases dL:i=j
  ·subst dL;rw[Qb rfl,Qb (by omega)] at hq;rw[Qb rfl,Qb ej] at hz
   cases hq; cases hz
   obtain⟨h5,h6⟩:=h4 i r x hr' hi;exact⟨by rw[List.length_set]; exact h5,xm.read hk hs hm (hR r h5 h6)⟩
  ·rw[Qc dL] at hq hz;obtain⟨h5,h6⟩:=h4 j q z hq hz;exact⟨h5,xm.read hk hs hm h6⟩
theorem bJ.frozenAt{α:Type}{R:World->Nat->List Value->α->Prop}{sz:Nat}{e:TypeId}{base:Nat}{M:Nat->Prop}{w:World}{g n cap:Nat}{xs:List α}(h:bJ R sz e base M w (.slice (some ⟨g,0,none⟩) n cap) xs)(hn:xs.length=n)(j:Nat):w.frozen? ⟨g,j,none⟩=false:=by
 obtain⟨rows,h1,h2,_⟩:=h;subst hn;exact World.ownsRow.frozenAt h2 j
theorem j8:fu fS:=λ_ _ _ _ _ _ hM ⟨z,s,dv,sv,fv,pv,h0,h1,h2,h3,h4,h5,h6,h7,h8⟩=>⟨z,s,dv,sv,fv,pv,h0,h1,h2,h3,h4,h5.sans vd hM,h6.sans yc hM,h7.sans (λ_ _ _ _ _ _ _ h=>h) hM,h8.sans (λ_ _ _ _ _ _ _ h=>h) hM⟩
theorem Nn:fu cV:=λ_ _ _ _ _ _ _ h=>h
theorem Wf:∀ (w:World) (B:Nat) (r:List Value) (y:Np.Held),fS w B r y->∀ u∈r,u.oneCell'=true:=λw B r y ⟨z,s,dv,sv,fv,pv,h0,_,_,_,_,h5,h6,h7,h8⟩ u hu=>by
 obtain⟨_,_,rfl,_⟩:=ag h5;obtain⟨_,_,rfl,_⟩:=ag h6;obtain⟨_,_,rfl,_⟩:=ag h7;obtain⟨_,_,rfl,_⟩:=ag h8;rw[h0] at hu;simp only[List.mem_cons,Qh,or_false] at hu;rcases hu with rfl | rfl | rfl | rfl | rfl | rfl | rfl | rfl <;> rfl
theorem MI{W:World}{B:Nat}{r:List Value}{x:Np.Held}{v:Value}{ps:List Np.Span}(h:fS W B r x)(hv:SlR cV 2 W B v ps):fS W B (r.set 6 v) ⟨x.zone,x.signed,ps,x.spans⟩:=by
 obtain⟨z,s,dv,sv,fv,pv,rfl,h1,h2,h3,h4,h5,h6,h7,h8⟩:=h;exact⟨z,s,dv,sv,v,pv,rfl,h1,h2,h3,h4,h5,h6,hv,h8⟩
theorem bJ.formSome{α:Type}{R:World->Nat->List Value->α->Prop}{sz:Nat}{e:TypeId}{base:Nat}{M:Nat->Prop}{w:World}{v:Value}{xs:List α}{n:Nat}(h:bJ R sz e base M w v xs)(hn:xs.length=n)(h0:0<n):∃ g cap,v = .slice (some ⟨g,0,none⟩) n cap/\base<=g/\g<w.heap.size/\M g:=by
 obtain⟨rows,h1,h2,h3,h4⟩:=h;subst hn;rcases h2.2 with ⟨rfl,h⟩ | ⟨g,cap,cur,rfl,hb,hg,_⟩
 ·omega
 ·exact⟨g,cap,rfl,hb,(eQ.1 hg).1,h3 g rfl⟩
theorem OO{base:Nat}{M:Nat->Prop}{w:World}{g n cap:Nat}{xs:List Np.Held}(h:bJ fS 8 70 base M w (.slice (some ⟨g,0,none⟩) n cap) xs)(hl:xs.length<=140737488355328){k:Nat}{x:Np.Held}(hx:xs[k]?=some x):∃ (z s:ByteArray) (dv sv fv _pv:Value),z.data.toList=x.zone/\s.data.toList=x.signed.set.name/\
 SlR cG 3 w w.heap.size dv x.signed.set.data/\SlR fT 6 w w.heap.size sv x.signed.sigs/\SlR cV 2 w w.heap.size fv x.fresh/\
 w.cell? ⟨g,k * 8+1,none⟩=some (.string s)/\w.cell? ⟨g,k * 8+2,none⟩=some (.int .i64 x.signed.set.type)/\w.cell? ⟨g,k * 8+3,none⟩=some (.int .i64 x.signed.set.life)/\w.cell? ⟨g,k * 8+4,none⟩=some dv/\w.cell? ⟨g,k * 8+5,none⟩=some sv/\w.cell? ⟨g,k * 8+6,none⟩=some fv:=by
 obtain⟨b,o,z,s,dv,sv,fv,pv,hA,hb,hz,hs,bd,aL,sM,xM,e0,e1,e2,e3,e4,e5,e6,e7⟩:=AB (h.slr j8 hl) hx;simp only[Option.some.injEq,Addr.mk.injEq,and_true] at hA;obtain⟨rfl,rfl⟩:=hA;simp only[Nat.zero_add] at e0 e1 e2 e3 e4 e5 e6 e7;exact⟨z,s,dv,sv,fv,pv,hz,hs,bd,aL,sM,e1,e2,e3,e4,e5,e6⟩
def hsN(zone:List UInt8)(ps:List (Np.Span×Np.Signed)):List Np.Held:=Np.mJ Np.bq zone ps
def Ee(ps:List (Np.Span×Np.Signed)):Prop:=∀ p∈ps,p.1.frm<p.1.til
theorem Ia(zone:List UInt8)(ps:List (Np.Span×Np.Signed)):(hsN zone ps).length<=ps.length:=by
 unfold hsN;rw[Np.Nw]
 have:=Np.vq (ps.map (·.2))
 rwa [List.length_map] at this
theorem Pj{zone:List UInt8}{ps:List (Np.Span×Np.Signed)}{i:Nat}{x:Np.Held}(h:(hsN zone ps)[i]?=some x):x=⟨zone,x.signed,Np.bq (Np.ep ps x.signed),[]⟩/\(Np.cH (ps.map (·.2)))[i]?=some x.signed:=by
 obtain⟨s,h1,rfl⟩:=Np.Of.1 h;exact⟨rfl,h1⟩
theorem x8{ps:List (Np.Span×Np.Signed)}(h:Ee ps)(s:Np.Signed):Np.mM (Np.ep ps s):=λ_ ht=>h _ (Np.DH.1 ht)
theorem NM(ps:List (Np.Span×Np.Signed))(s:Np.Signed):(Np.ep ps s).length<=ps.length:=by
 unfold Np.ep;rw[List.length_map];exact List.length_filter_le _ _
theorem ZC{zone:List UInt8}{ps:List (Np.Span×Np.Signed)}(hf:Ee ps){i:Nat}{x:Np.Held}(hx:(hsN zone ps)[i]?=some x){sp:Np.Span}(EE:sp.frm<sp.til):(hsN zone ps).set i ⟨x.zone,x.signed,Np.bq (x.fresh ++ [sp]),x.spans⟩=hsN zone (ps ++ [(sp,x.signed)]):=by
 obtain⟨h1,h2⟩:=Pj hx;unfold hsN;rw[Np.WJ (p:=(sp,x.signed)) h2];rw[<-Nt (x8 hf _) EE];have e:x.fresh=Np.bq (Np.ep ps x.signed):=by rw[h1]
 have e2:x.zone=zone:=by rw[h1]
 have e3:x.spans = []:=by rw[h1]
 rw[e,e2,e3]
theorem ZD{zone:List UInt8}{ps:List (Np.Span×Np.Signed)}{s:Np.Signed}(hn:∀ x∈hsN zone ps,x.signed≠s){sp:Np.Span} : (hsN zone ps ++ [(⟨zone,s,[],[]⟩:Np.Held)]).set (hsN zone ps).length (⟨zone,s,Np.bq ([] ++ [sp]),[]⟩:Np.Held)=hsN zone (ps ++ [(sp,s)]):=by
 have h:s∉Np.cH (ps.map (·.2)):=λhm=>by
  obtain⟨i,hi⟩:=List.mem_iff_getElem?.1 hm;have h2:(hsN zone ps)[i]?=some ⟨zone,s,Np.bq (Np.ep ps s),[]⟩:=Np.Of.2 ⟨s,hi,rfl⟩;exact hn _ (gQ h2) rfl
 unfold hsN at hn |-;rw[Np.WK (p:=(sp,s)) h,List.set_append_right _ _ (bQ _),Nat.sub_self];rfl
end
end Go.Proofs.YtbfbobfbgabjiaaGreatDoor
