/- Parts of the proof. No condition. -/
import Derived.Shelf.SlSortCmp.NoneTotal
import Derived.Laws.OwnMore
import Derived.Maps.RangeWalk
import Derived.Test.YtbfbobfbgabjiaaGreatDoorM10
set_option linter.all false
set_option maxRecDepth 100000
set_option maxHeartbeats 8000000
namespace Go.Proofs.YtbfbobfbgabjiaaGreatDoor
open Go.Proofs.Tryz
section
open Go.RowKit Go.Sort Go.Shelf
instance:Inhabited Np.Span:=⟨⟨0,0⟩⟩
theorem Vt(f u f' u':Int)(w:World) :
 Calls prog 125 #[.agg #[.int .i64 f,.int .i64 u],.agg #[.int .i64 f',.int .i64 u']] w λe w'=>e = .returned (.int .i64 (Np.cX f f'))/\∃ q os,w'=grow (w.drewN q) os:=by
 go_enter func125,ntmps125;go_wp2_with (go_at_call 58; refine (An _ _ _).mono ?_; rintro e w' ⟨rfl,rfl⟩);go_ret;exact⟨rfl,0,_,by rw[alloc_eq_grow,alloc_eq_grow,grow_grow]; rfl⟩
theorem Ef(x y:Np.Span):ltOf (λx y:Np.Span=>Np.cX x.frm y.frm) x y=decide (x.frm<y.frm):=by
 unfold ltOf Np.cX;by_cases h1:x.frm<y.frm
 ·simp[h1]
 ·by_cases h2:y.frm<x.frm <;> simp[h1,h2]
theorem acZ:SWO (ltOf λx y:Np.Span=>Np.cX x.frm y.frm) where
 irrefl x:=by rw[Ef]; simp
 trans x y z h1 h2:=by rw[Ef] at *; simp at *; omega
 ntrans x y z h1 h2:=by rw[Ef] at *; simp at *; omega
theorem Vc{d d':Array Np.Span}(hp:PermIn 0 d.size d d')(hs:SortedIn (ltOf λx y:Np.Span=>Np.cX x.frm y.frm) 0 d.size d'):d'.toList.Perm d.toList/\d'.toList.Pairwise λa b=>a.frm<=b.frm:=by
 obtain⟨h1,_,h3⟩:=hp;refine⟨?_,?_⟩
 ·have e1:d'.extract 0 d.size=d':=by rw[<-h1]; simp
  have e2:d.extract 0 d.size=d:=by simp
  rwa [e1,e2] at h3
 ·rw[List.pairwise_iff_getElem];intro i j hi hj dL
  have:=hs i j (jQ _) dL (by rw[<-h1]; simpa using hj)
  rw[Ef,getElem!_pos d' i (by simpa using hi),getElem!_pos d' j (by simpa using hj)] at this;simpa using this
theorem MA(fid:FuncId)(hfc:∀ (f u f' u':Int) (w:World),Calls prog fid #[.agg #[.int .i64 f,.int .i64 u],.agg #[.int .i64 f',.int .i64 u']] w λe w'=>e = .returned (.int .i64 (Np.cX f f'))/\∃ q os,w'=grow (w.drewN q) os)(eg:∀ args w,(callFunc fid args).run prog w = .ok (.enter fid args) w)(base:Nat)(v:Value)(xs:List Np.Span)(w:World)(hown:aI base w v xs)(hl:xs.length<=100000) :
 Calls prog 56 #[v,.func (.func fid) #[] #[]] w λe w'=>e = .returned (.tuple #[])/\∃ ys:List Np.Span,ys.Perm xs/\ys.Pairwise (λa b=>a.frm<=b.frm)/\aI base w' v ys/\w.grownBy w' v.ownBlock:=by
 have qa:w.ownsRow base 114 2 v xs.length (xs.map gq).flatten:=hown;rcases qa.2 with ⟨rfl,h0⟩ | ⟨g,cap,cur,rfl,eS,hb,h1,h2,h3,h4⟩
 ·have:xs = []:=rQ h0
  subst this;refine (AnyF.slices_SortFunc_none Tryz.sortSpan none 0 _ w).mono ?_;intro e w' hh;obtain⟨rfl,rfl⟩:=hh;exact⟨rfl,[],List.Perm.refl _,List.Pairwise.nil,hown,⟨rfl,rfl,rfl,bQ _,λ_ _ _=>rfl⟩⟩
 have aE:∀ w,(isAgg 114).run prog w = .ok true w:=λw=>by kernel_rfl
 have zE:∀ w,(Go.sizeOf 114).run prog w = .ok 2 w:=λw=>by kernel_rfl
 have hH:=WI gq 2 (λ_=>rfl) (by omega) hb h4;have Bc:CmpLays prog fid #[] gq 2 (λx y:Np.Span=>Np.cX x.frm y.frm) g 0 xs.toArray.size w:=λm os dk _ x y=>hfc x.frm x.til y.frm y.til _;have Ex:=AnyQ.slices_SortFunc Tryz.sortSpan 2 aE zE gq (λ_=>rfl) (λx u hu=>by simp only[gq,List.mem_cons,Qh,or_false] at hu; rcases hu with rfl | rfl <;> rfl) (λx y:Np.Span=>Np.cX x.frm y.frm) acZ fid #[] g 0 cap xs.toArray w eg Bc hH (eQ.1 hb).1 (by simp; omega);refine Ex.mono λe w' ⟨he,d',n,os,hp,hs,hw⟩=>⟨he,d'.toList,?_⟩;obtain⟨p1,p2⟩:=Vc hp hs;have hlen:d'.toList.length=xs.length:=by simpa using p1.length_eq
 refine⟨by simpa using p1,p2,?_,?_⟩
 ·subst hw;unfold aI;rw[hlen]
  have:=Ty gq 2 (λ_=>rfl) (by omega) (n:=n) (os:=os) hlen eS hb h1 h2 h3
  simpa using this
 ·subst hw;exact Tz gq 2 _
theorem V5(base:Nat)(v:Value)(xs:List Np.Span)(w:World)(hown:aI base w v xs)(hl:xs.length<=100000) :
 Calls prog 56 #[v,.func (.func 125) #[] #[]] w λe w'=>e = .returned (.tuple #[])/\∃ ys:List Np.Span,ys.Perm xs/\ys.Pairwise (λa b=>a.frm<=b.frm)/\aI base w' v ys/\w.grownBy w' v.ownBlock:=
 MA _ Vt (enters_of func125 (by kernel_rfl) rfl) base v xs w hown hl
theorem Oo:∀ (l o:List Np.Span),(l.foldl Np.gp o).length<=o.length+l.length:=by
 intro l
 induction l with
 | nil=>intro o; simp
 | cons s l ih=>
  intro o;have h1:(Np.gp o s).length<=o.length+1:=by
   rcases List.eq_nil_or_concat o with rfl | ⟨q,p,rfl⟩
   ·simp[Np.NK]
   ·rw[List.concat_eq_append,Np.GC]; split <;> simp
  have:=ih (Np.gp o s)
  rw[List.foldl_cons,List.length_cons]; omega
theorem Y3(q:List Np.Span)(p:Np.Span)(u:Int):(((q ++ [p]).map gq).flatten).set (q.length * 2+1) (.int .i64 u)=((q ++ [(⟨p.frm,u⟩:Np.Span)]).map gq).flatten:=by
 have hl:((q.map gq).flatten).length=q.length * 2:=by rw[<-List.flatMap_def]; induction q with | nil=>rfl | cons a q ih=>simp[List.flatMap_cons,ih,gq]; omega
 rw[List.map_append,List.flatten_append,List.map_append,List.flatten_append,List.set_append_right _ _ (by rw[hl]; omega),hl];congr 1;rw[show q.length * 2+1 - q.length * 2=1 by omega];rfl
theorem X5(q:List Np.Span)(p:Np.Span)(j:Nat):(((q ++ [p]).map gq).flatten)[q.length * 2+j]?=(gq p)[j]?:=by
 have hl:((q.map gq).flatten).length=q.length * 2:=by rw[<-List.flatMap_def]; induction q with | nil=>rfl | cons a q ih=>simp[List.flatMap_cons,ih,gq]; omega
 rw[List.map_append,List.flatten_append,oQ (by rw[hl]; omega),hl];simp
theorem VY(v:Value)(l:List Np.Span)(cu:l.length<=20000)(w:World)(h:SlR cV 2 w w.heap.size v l) :
 Calls prog 126 #[v] w (λe w'=>∃ v',e = .returned v'/\aI w.heap.size w' v' (l.foldl Np.gp [])/\Below w.heap.size w w'):=by
 have HD:=jq h;obtain⟨A,c,rfl,bC,bH⟩:=ag h;clear h;have HN:Hid (∀ k,((l.take k).foldl Np.gp []).length<=k):=jq (λk=>yQ (Oo _ _) (by simp; omega));go_enter func126,ntmps126;go_wp2_with fail;go_loopw [3,9] (λvo i wr=>∃ (k:Nat),k<=l.length/\i = .int .i64 k/\Hid (Below w.heap.size w wr)/\Hid (aI w.heap.size wr vo ((l.take k).foldl Np.gp []))) (λ_ i _=>l.length - (intOf i).toNat)
 case atStart=>exact⟨0,jQ _,rfl,jq (vQ _ _),jq (aI.nil _ _)⟩
 case round=>
  obtain⟨k,hk,rfl,HB,HO⟩:=hrel;have an:=HB.out.size;by_cases ab:k<l.length
  ·obtain⟨x,ac⟩:∃ x,l[k]?=some x:=⟨_,aQ ab⟩;obtain⟨A',c',hA',_,_,bU⟩:=HD.out.keep fE HB.out
   cases hA'
   obtain⟨b,o,e,rfl,cD,hlen,hce,hR⟩:=bU k _ ac;obtain rfl:=hR;have h0:wr.cell? ⟨b,o+k * 2,none⟩=some (.int .i64 x.frm):=hce 0 _ rfl;have h1:wr.cell? ⟨b,o+k * 2+1,none⟩=some (.int .i64 x.til):=hce 1 _ rfl;have HT:Hid ((l.take (k+1)).foldl Np.gp []=Np.gp ((l.take k).foldl Np.gp []) x):=jq (by
    obtain⟨hl,he⟩:=cQ.1 ac;rw[fQ hl,he,List.foldl_append]; rfl)
   have dF:b<wr.heap.size:=by omega
   have br:Hid (∀ o,Below w.heap.size w (wr.alloc o)):=jq (λo=>HB.out.alloc HB.out.size _);have zf:=HN.out k;obtain⟨fr,ti⟩:=x;clear bU hce ac;dsimp only at h0 h1;obtain⟨ol,RH⟩:∃ ol,(l.take k).foldl Np.gp []=ol:=⟨_,rfl⟩;rw[RH] at HO HT zf;clear RH;rcases List.eq_nil_or_concat ol with rfl | ⟨q,p,rfl⟩
   ·obtain⟨A0,c0,rfl⟩:=aI.form HO.out;go_wp2_with fail;go_quiet (fail);obtain⟨w2,ai⟩:∃ w2,(wr.alloc (.cells #[.int .i64 fr,.int .i64 ti] 114)).drewN nq=w2:=⟨_,rfl⟩;have aN:w2.heap.size=wr.heap.size+1:=by rw[<-ai]; simp
    have c0:w2.cell? ⟨wr.heap.size,0,none⟩=some (.int .i64 fr):=by rw[<-ai]; simp[go_sem]
    have c1:w2.cell? ⟨wr.heap.size,1,none⟩=some (.int .i64 ti):=by rw[<-ai]; simp[go_sem]
    have jz:Below wr.heap.size wr w2:=by rw[<-ai]; exact below_drewN ((vQ _ _).alloc (bQ _) _) _
    have ak:Hid (Below w.heap.size w w2):=jq (HB.out.trans (jz.mono an));have aC:Hid (aI w.heap.size w2 _ []):=jq (HO.out.keep jz);rw[ai];clear ai jz;go_wp2_with (at_builtin; refine tn _ rfl _ _ rfl w.heap.size _ [] rfl (aC.out.alloc _) w2.heap.size fr ti (by simp[go_sem]) (by simp[go_sem]) (by simp[go_sem]) (by simp) (by simp; omega) ?_; intro v5 w5 eN aA; have H5:=jq (And.intro eN aA); clear eN aA);go_roundw
    case rel=>exact⟨k+1,by omega,by go_num,jq ((ak.out.alloc (by omega) _).trans H5.out.2),jq (by rw[HT.out]; exact H5.out.1)⟩
    case measure=>simp[intOf] <;> omega
   ·rw[List.concat_eq_append] at HO HT zf;have hown:wr.ownsRow w.heap.size 114 2 u3 (q ++ [p]).length ((q ++ [p]).map gq).flatten:=HO.out;have n7:=jq (X5 q p);have HFS:=jq (Y3 q p);have HLE:Hid ((q ++ [p]).length<=100000):=jq (by omega);have om:(q ++ [p]).length=q.length+1:=by simp
    have hqk:q.length+1<=k:=by rw[om] at zf; exact zf
    clear zf;rcases hown.2 with ⟨_,h00⟩ | ⟨g,cap,cur,rfl,eS,hb,aJ,aK,_,_⟩
    ·rw[om] at h00; omega
    have gY:=jq hown;have lg:g<wr.heap.size:=(eQ.1 hb).1;clear hb hown;obtain⟨M,hM⟩:∃ M,(q ++ [p]).length=M:=⟨_,rfl⟩;obtain⟨m,hm⟩:∃ m,q.length=m:=⟨_,rfl⟩;have g0:wr.cell? ⟨g,m * 2,none⟩=some (.int .i64 p.frm):=by
     rw[<-hm,gY.out.cellAt _ (by rw[om]; omega)]
     have:=n7.out 0
     rwa [Nat.add_zero] at this
    have g1:wr.cell? ⟨g,m * 2+1,none⟩=some (.int .i64 p.til):=by
     rw[<-hm,gY.out.cellAt _ (by rw[om]; omega)];exact n7.out 1
    have gf:wr.frozen? ⟨g,m * 2+1,none⟩=false:=gY.out.frozenAt _;rw[om,hm] at hM;have hq:IntKind.i64.wrap ((M:Int) - 1)=(m:Int):=by rw[show (M:Int) - 1=m by omega]; simp[IntKind.wrap,IntKind.bits,IntKind.signed]; omega
    have hM0:decide (0<(M:Int))=true:=uQ (by omega);have blQ:decide (0<M)=true:=uQ (by omega);have hmM:m<M:=by omega
    have brQ:(m:Int)<(M:Int):=by omega
    have kV:(0:Int)<=(m:Int):=by omega
    have HM:Hid ((q ++ [p]).length=M):=jq (by rw[om,hm,hM]);rw[HM.out] at aJ;have HM2:=jq hM;have HQ:=jq hm;have Rk:=jq (Np.GC q p ⟨fr,ti⟩);clear hM hm om;rw[HM.out];by_cases g8:fr<=p.til
    ·have hd:decide (fr<=p.til)=true:=uQ g8;have fV:Hid ((l.take (k+1)).foldl Np.gp []=q ++ [⟨p.frm,max p.til ti⟩]):=jq (by rw[HT.out,Rk.out,Qb g8]);clear g8;go_wp2_with fail;go_quiet (fail);obtain⟨w2,ai⟩:∃ w2,(wr.alloc (.cells #[.int .i64 fr,.int .i64 ti] 114)).drewN nq=w2:=⟨_,rfl⟩;have aN:w2.heap.size=wr.heap.size+1:=by rw[<-ai]; simp
     have c0:w2.cell? ⟨wr.heap.size,0,none⟩=some (.int .i64 fr):=by rw[<-ai]; simp[go_sem]
     have c1:w2.cell? ⟨wr.heap.size,1,none⟩=some (.int .i64 ti):=by rw[<-ai]; simp[go_sem]
     have jz:Below wr.heap.size wr w2:=by rw[<-ai]; exact below_drewN ((vQ _ _).alloc (bQ _) _) _
     have ak:Hid (Below w.heap.size w w2):=jq (HB.out.trans (jz.mono an));have aC:Hid (aI w.heap.size w2 (.slice (some ⟨g,0,none⟩) M cap) (q ++ [p])):=jq (HM.out ▸ HO.out.keep jz);rw[ai];clear ai;have d1:w2.cell? ⟨g,m * 2+1,none⟩=some (.int .i64 p.til):=(jz.cell lg).trans g1;have df:w2.frozen? ⟨g,m * 2+1,none⟩=false:=(jz.frozen lg).trans gf;clear jz g0 g1 gf;go_wp2_with fail;go_region;have ck:Hid (aI w.heap.size (w2.setCell ⟨g,m * 2+1,none⟩ (.int .i64 (max p.til ti))).drew (.slice (some ⟨g,0,none⟩) M cap) (q ++ [⟨p.frm,max p.til ti⟩])/\Below w.heap.size w (w2.setCell ⟨g,m * 2+1,none⟩ (.int .i64 (max p.til ti))).drew):=jq (by
      have h1:w2.ownsRow w.heap.size 114 2 (.slice (some ⟨g,0,none⟩) (q ++ [p]).length cap) (q ++ [p]).length ((q ++ [p]).map gq).flatten:=by
       have:=aC.out
       rw[<-HM.out] at this;exact this
      obtain⟨h2,h3⟩:=World.ownsRow.stored h1 (m * 2+1) (.int .i64 (max p.til ti));refine⟨aI.keep (w:=w2.setCell ⟨g,m * 2+1,none⟩ (.int .i64 (max p.til ti))) ?_ (vQ _ _).drew,(ak.out.grown h3 ak.out.size (λk hk=>by simp at hk; omega)).drew⟩;rw[<-HQ.out] at h2 |-;rw[HFS.out] at h2;have e1:(q ++ [(⟨p.frm,max p.til ti⟩:Np.Span)]).length=(q ++ [p]).length:=by simp
      unfold aI;rw[e1,<-HM.out];exact h2)
     go_wp2_with fail;go_roundw
     case rel=>exact⟨k+1,by omega,by go_num,jq ck.out.2,jq (by rw[fV.out]; exact ck.out.1)⟩
     case measure=>simp[intOf] <;> omega
    ·have hd:decide (fr<=p.til)=false:=tQ g8;have fV:Hid ((l.take (k+1)).foldl Np.gp []=q ++ [p] ++ [⟨fr,ti⟩]):=jq (by rw[HT.out,Rk.out,Qc g8]);clear g8;go_wp2_with fail;go_quiet (fail);obtain⟨w2,ai⟩:∃ w2,(wr.alloc (.cells #[.int .i64 fr,.int .i64 ti] 114)).drewN nq=w2:=⟨_,rfl⟩;have aN:w2.heap.size=wr.heap.size+1:=by rw[<-ai]; simp
     have c0:w2.cell? ⟨wr.heap.size,0,none⟩=some (.int .i64 fr):=by rw[<-ai]; simp[go_sem]
     have c1:w2.cell? ⟨wr.heap.size,1,none⟩=some (.int .i64 ti):=by rw[<-ai]; simp[go_sem]
     have jz:Below wr.heap.size wr w2:=by rw[<-ai]; exact below_drewN ((vQ _ _).alloc (bQ _) _) _
     have ak:Hid (Below w.heap.size w w2):=jq (HB.out.trans (jz.mono an));have aC:Hid (aI w.heap.size w2 (.slice (some ⟨g,0,none⟩) M cap) (q ++ [p])):=jq (HM.out ▸ HO.out.keep jz);rw[ai];clear ai;clear jz g0 g1 gf;go_wp2_with (at_builtin; refine tn _ rfl _ _ rfl w.heap.size _ (q ++ [p]) rfl (aC.out.alloc _) w2.heap.size fr ti (by simp[go_sem]) (by simp[go_sem]) (by simp[go_sem]) HLE.out (by simp; omega) ?_; intro v5 w5 eN aA; have H5:=jq (And.intro eN aA); clear eN aA);go_roundw
     case rel=>exact⟨k+1,by omega,by go_num,jq ((ak.out.alloc (by omega) _).trans H5.out.2),jq (by rw[fV.out]; exact H5.out.1)⟩
     case measure=>simp[intOf] <;> omega
  ·have HE':Hid (l.take k=l):=jq (kQ (by omega));go_wp2_with fail;go_ret;exact⟨_,rfl,by have:=HO.out; rwa [HE'.out] at this,HB.out⟩
def Np.El(s:Np.Span):Prop:=0<=s.frm/\s.frm<s.til/\s.til<=20000000
theorem aI.weak{base base':Nat}{w:World}{v:Value}{ps:List Np.Span}(h:aI base w v ps)(hb:base'<=base):aI base' w v ps:=by
 refine⟨h.1,?_⟩;rcases h.2 with h2 | ⟨g,cap,cur,h1,h2,h3⟩
 ·exact .inl h2
 ·exact .inr ⟨g,cap,cur,h1,yQ hb h2,h3⟩
theorem qv(l:List Np.Span):(Np.bq l).length<=l.length:=by
 have:=Oo (l.mergeSort λa b=>decide (a.frm<=b.frm)) []
 simpa [Np.bq] using this
theorem Nr(v:Value)(l:List Np.Span)(cu:l.length<=20000)(hin:∀ s∈l,Np.El s)(w:World)(h:SlR cV 2 w w.heap.size v l) :
 Calls prog 66 #[v] w (λe w'=>∃ v',e = .returned (.tuple #[v',.int .i64 0])/\aI w.heap.size w' v' (Np.bq l)/\Below w.heap.size w w'):=by
 have HD:=jq h;have nh:=jq hin;obtain⟨A,c,rfl,bC,bH⟩:=ag h;clear h hin;have g8:decide (20000<(l.length:Int))=false:=tQ (by omega);go_enter func66,ntmps66;go_wp2_with fail;go_loopw [12] (λi wr=>∃ (k:Nat),k<=l.length/\i = .int .i64 k/\Hid (Below w.heap.size w wr)) (λi _=>l.length - (intOf i).toNat)
 case atStart=>exact⟨0,jQ _,rfl,jq (vQ _ _)⟩
 case round=>
  obtain⟨k,hk,rfl,HB⟩:=hrel;have an:=HB.out.size;by_cases ab:k<l.length
  ·obtain⟨x,ac⟩:∃ x,l[k]?=some x:=⟨_,aQ ab⟩;obtain⟨A',c',hA',_,_,bU⟩:=HD.out.keep fE HB.out
   cases hA'
   obtain⟨b,o,e,rfl,cD,hlen,hce,hR⟩:=bU k _ ac;obtain rfl:=hR;have h0:wr.cell? ⟨b,o+k * 2,none⟩=some (.int .i64 x.frm):=hce 0 _ rfl;have h1:wr.cell? ⟨b,o+k * 2+1,none⟩=some (.int .i64 x.til):=hce 1 _ rfl;obtain⟨i1,i2,i3⟩:=nh.out x (gQ ac);have eI:decide (x.frm<0)=false:=tQ (by omega);have kA:decide (x.til<x.frm)=false:=tQ (by omega);have IG:decide (20000000<x.til)=false:=tQ (by omega);have br:Hid (∀ o,Below w.heap.size w (wr.alloc o)):=jq (λo=>HB.out.alloc HB.out.size _);have dF:b<wr.heap.size:=by omega
   obtain⟨fr,ti⟩:=x;clear bU hce ac i1 i2 i3;dsimp only at h0 h1 eI kA IG;go_wp2_with fail;go_roundw
   case rel=>exact⟨k+1,by omega,by go_num,jq (br.out _)⟩
   case measure=>simp[intOf] <;> omega
  ·have ia:=jq (HD.out.keep fE HB.out);go_wp2_with fail;refine (YA _ l cu (λs hs=>(nh.out s hs).2.1) _ ((ia.out.more jY an))).mono ?_;rintro e w2 ⟨v2,rfl,iY,aa⟩;have aC:=jq iY;have ak:=jq (HB.out.trans (aa.mono an));have aN:wr.heap.size<=w2.heap.size:=aa.size;clear iY aa;obtain⟨A2,c2,rfl⟩:=aC.out.form;go_wp2_with fail;refine (V5 wr.heap.size _ l _ aC.out (by omega)).mono ?_;rintro e w3 ⟨rfl,ys,hp,hs,jw,qQ⟩;have oi:ys.length=l.length:=hp.length_eq;have HY:Hid (ys.foldl Np.gp []=Np.bq l):=jq (Np.UM (λs hs=>(nh.out s hs).2.1) hp hs);have eJ:=jq jw;have ah:Below wr.heap.size w2 w3:=(vQ _ _).grown qQ aN (λk hk=>(World.ownsRow.lt aC.out k hk).1);have av:=jq (ak.out.trans (ah.mono an));clear hp hs jw qQ;go_wp2_with fail;refine (VY _ ys (by omega) _ (eJ.out.slr (by omega))).mono ?_;rintro e w4 ⟨v4,rfl,kw,am⟩;have HE:=jq (And.intro kw (av.out.trans (am.mono av.out.size)));clear kw am;go_wp2_with fail;go_ret2;exact⟨_,rfl,by have:=HE.out.1.weak av.out.size; rw[HY.out] at this; exact this,HE.out.2⟩
end
namespace Np
def gu(c:Copy):Int×List UInt8:=(c.host,c.zone.apex)
def gi(l:List Copy)(p:Int×List UInt8):List Span:=(l.filter λc=>decide (gu c=p)).map im
theorem Dx(l:List Copy)(c:Copy)(p:Int×List UInt8):gi (l ++ [c]) p=if gu c=p then gi l p ++ [im c] else gi l p:=by
 unfold gi;rw[List.filter_append];by_cases h:gu c=p
 ·simp[h]
 ·simp[h]
theorem Nx{l:List Copy}{p:Int×List UInt8}(h:∀ c∈l,gu c≠p):gi l p = []:=by
 unfold gi;rw[List.filter_eq_nil_iff.2 (λc hc=>by simpa using h c hc)]; rfl
structure GrpI(kvs:List ((Int×List UInt8)×List Span))(l:List Copy):Prop where
 nodup:(kvs.map (·.1)).Nodup
 each:∀ x∈kvs,x.2=gi l x.1
 all:∀ c∈l,gu c∈kvs.map (·.1)
theorem GrpI.nil:GrpI [] []:=⟨by simp,λx hx=>(by cases hx),λc hc=>(by cases hc)⟩
theorem GrpI.old{kvs:List ((Int×List UInt8)×List Span)}{l:List Copy}(h:GrpI kvs l){c:Copy}{j:Nat}{g:List Span}(hj:kvs[j]?=some (gu c,g)):GrpI (kvs.set j (gu c,g ++ [im c])) (l ++ [c]):=by
 obtain⟨hl,he⟩:=cQ.1 hj;have hk:(kvs.set j (gu c,g ++ [im c])).map (·.1)=kvs.map (·.1):=by
  rw[List.map_set];apply List.ext_getElem?;intro i;rw[List.getElem?_set];split
  ·rename_i e; subst e;rw[List.length_map,Qb hl,List.getElem?_map,hj]; rfl
  ·rfl
 have hg:=h.each _ (gQ hj);refine⟨by rw[hk]; exact h.nodup,λx hx=>?_,λd hd=>?_⟩
 ·obtain⟨i,hi,rfl⟩:=nQ.1 hx;rw[List.length_set] at hi;rw[List.getElem_set];split
  ·rename_i e; subst e;rw[Dx,Qb rfl];simp only at hg |-;rw[<-hg]
  ·rename_i e;rw[Dx,Qc]
   ·exact h.each _ (List.getElem_mem hi)
   ·intro e2;apply e;have h1:(kvs.map (·.1))[j]'(by simpa using hl)=(kvs.map (·.1))[i]'(by simpa using hi):=by simp[he,e2]
    exact (List.getElem_inj (h₀:=by simpa using hl) (h₁:=by simpa using hi) h.nodup).1 h1
 ·rw[hk];rcases List.mem_append.1 hd with hd | hd
  ·exact h.all d hd
  ·rw[List.mem_singleton] at hd; subst hd;exact List.mem_map.2 ⟨_,gQ hj,rfl⟩
theorem GrpI.new{kvs:List ((Int×List UInt8)×List Span)}{l:List Copy}(h:GrpI kvs l){c:Copy}(hn:gu c∉kvs.map (·.1)):GrpI (kvs ++ [(gu c,[im c])]) (l ++ [c]):=by
 have h0:gi l (gu c) = []:=Nx λd hd e=>hn (by rw[<-e]; exact h.all d hd);refine⟨?_,λx hx=>?_,λd hd=>?_⟩
 ·rw[List.map_append,List.nodup_append];refine⟨h.nodup,by simp,λa ha b hb e=>?_⟩;simp at hb; subst hb; subst e; exact hn ha
 ·rcases List.mem_append.1 hx with hx | hx
  ·rw[Dx,Qc]
   ·exact h.each x hx
   ·intro e; exact hn (by rw[e]; exact List.mem_map.2 ⟨x,hx,rfl⟩)
  ·rw[List.mem_singleton] at hx; subst hx;rw[Dx,Qb rfl,h0]; rfl
 ·rw[List.map_append];rcases List.mem_append.1 hd with hd | hd
  ·exact List.mem_append_left _ (h.all d hd)
  ·rw[List.mem_singleton] at hd; subst hd; simp
def oO(a b:Span):Prop:=a.frm<b.til/\b.frm<a.til
theorem oO.symm{a b:Span}(h:oO a b):oO b a:=⟨h.2,h.1⟩
def Ir(m:List Span):Prop:=∀ i (h:i+1<m.length),m[i].til<=m[i+1].frm
theorem Xu{m l:List Span}(hp:m.Perm l)(hs:m.Pairwise λa b=>a.frm<=b.frm)(hf:∀ s∈l,s.frm<s.til):Ir m↔l.Pairwise λa b=>¬ oO a b:=by
 rw[<-hp.pairwise_iff (R:=λa b=>¬ oO a b) (λ{a b} h k=>h k.symm)];have QY:∀ s∈m,s.frm<s.til:=λs hs=>hf s (hp.mem_iff.1 hs);clear hp hf;constructor
 ·intro h;rw[List.pairwise_iff_getElem];intro i j hi hj dL ho;have key:∀ d,∀ (h1:i+d+1<m.length),(m[i]'(by omega)).til<=(m[i+d+1]'h1).frm:=by
   intro d
   induction d with
   | zero=>intro h1; exact h i h1
   | succ d ih=>
    intro h1;have h2:=ih (by omega);have h3:=h (i+d+1) (by omega);have h4:=QY _ (List.getElem_mem (show i+d+1<m.length by omega));have e:i+(d+1)+1=i+d+1+1:=by omega
    simp only[e];omega
  obtain⟨d,rfl⟩:∃ d,j=i+d+1:=⟨j - i - 1,by omega⟩
  have:=key d hj
  have:=ho.2
  omega
 ·intro h i hi;rw[List.pairwise_iff_getElem] at h hs;have h1:=h i (i+1) (by omega) hi (by omega);have h2:=hs i (i+1) (by omega) hi (by omega);have h3:=QY _ (List.getElem_mem hi);unfold oO at h1;omega
theorem WM(l:List Copy):(l.Pairwise λc d=>¬ jN c d)↔∀ p,(gi l p).Pairwise λa b=>¬ oO a b:=by
 induction l with
 | nil=>simp[gi]
 | cons c l ih=>
  rw[List.pairwise_cons,ih];constructor
  ·rintro⟨h1,h2⟩ p;by_cases hp:gu c=p
   ·have e:gi (c::l) p=im c::gi l p:=by unfold gi; simp[hp]
    rw[e,List.pairwise_cons];refine⟨λs hs=>?_,h2 p⟩;obtain⟨d,hd,rfl⟩:=List.mem_map.1 hs;obtain⟨eI,kA⟩:=List.mem_filter.1 hd;have hk:gu d=gu c:=by rw[hp]; simpa using kA
    intro ho;unfold gu at hk;simp only[Prod.mk.injEq] at hk;exact h1 d eI ⟨hk.1.symm,hk.2.symm,ho.1,ho.2⟩
   ·have e:gi (c::l) p=gi l p:=by unfold gi; simp[hp]
    rw[e]; exact h2 p
  ·intro h;refine⟨λd hd jE=>?_,λp=>?_⟩
   ·have h1:=h (gu c);have e:gi (c::l) (gu c)=im c::gi l (gu c):=by unfold gi; simp
    rw[e,List.pairwise_cons] at h1;refine h1.1 (im d) (List.mem_map.2 ⟨d,List.mem_filter.2 ⟨hd,?_⟩,rfl⟩) ⟨jE.2.2.1,jE.2.2.2⟩;unfold gu;simp[jE.1,jE.2.1]
   ·have h1:=h p;by_cases hp:gu c=p
    ·have e:gi (c::l) p=im c::gi l p:=by unfold gi; simp[hp]
     rw[e,List.pairwise_cons] at h1;exact h1.2
    ·have e:gi (c::l) p=gi l p:=by unfold gi; simp[hp]
     rwa [e] at h1
theorem GrpI.ok{kvs:List ((Int×List UInt8)×List Span)}{l:List Copy}(h:GrpI kvs l):(l.Pairwise λc d=>¬ jN c d)↔∀ x∈kvs,x.2.Pairwise λa b=>¬ oO a b:=by
 rw[WM];constructor
 ·intro h1 x hx;rw[h.each x hx]; exact h1 _
 ·intro h1 p;by_cases hp:p∈kvs.map (·.1)
  ·obtain⟨x,hx,rfl⟩:=List.mem_map.1 hp;rw[<-h.each x hx]; exact h1 x hx
  ·rw[Nx λc hc e=>hp (by rw[<-e]; exact h.all c hc)];exact List.Pairwise.nil
end Np
section
open Go.RowKit Go.MapKept Go.Shelf
theorem XM{α β:Type}[BEq α][LawfulBEq α](l:List (α×β))(p:α)(h:l.lookup p=none):p∉l.map (·.1):=by
 induction l with
 | nil=>simp
 | cons z zs ih=>
  rw[List.lookup_cons] at h
  cases hb:(p == z.1) with
  | true=>rw[hb] at h; simp at h
  | false=>
   rw[hb] at h;have hne:p≠z.1:=by simpa using hb
   simp only[List.map_cons,List.mem_cons,not_or];exact⟨hne,ih h⟩
abbrev fU:=(Int×List UInt8)×List Np.Span×Value
structure MapX(base r:Nat)(xs:List fU)(w:World):Prop where
 map:oP r (xs.map λx=>(x.1,x.2.2)) w
 row:∀ x∈xs,aI base w x.2.2 x.2.1
 apart:∀ (i j:Nat) (x y:fU) (g:Nat),xs[i]?=some x->xs[j]?=some y->x.2.2.ownBlock=some g->y.2.2.ownBlock=some g->i=j
theorem MapX.keep{base r:Nat}{xs:List fU}{w w':World}(h:MapX base r xs w)(hb:Below w.heap.size w w'):MapX base r xs w':=⟨h.map.keep hb h.map.lt,λx hx=>(h.row x hx).keep hb,h.apart⟩
theorem MapX.made(base:Nat)(w:World):MapX base w.heap.size [] (w.alloc (.map #[] 0)):=⟨oP.made w,λx hx=>(by cases hx),λi j x y g h=>by simp at h⟩
theorem aI.turned{base r:Nat}{w w':World}{v:Value}{ps:List Np.Span}(h:aI base w v ps)(ht:Turned r w w')(hr:r<base):aI base w' v ps:=fL h (λg hg=>ht.block g (by have:=(h.lt g hg).1; omega))
theorem MapX.turned{base r I:Nat}{xs:List fU}{w w':World}(h:MapX base r xs w)(ht:Turned I w w')(hI:I≠r)(hrow:∀ x∈xs,x.2.2.ownBlock≠some I):MapX base r xs w':=
 ⟨h.map.keep' (ht.block r (Ne.symm hI)),λx hx=>fL (h.row x hx) (λg hg=>ht.block g (λe=>hrow x hx (by rw[hg,e]))),h.apart⟩
theorem MapX.changed{base r:Nat}{xs:List fU}{w w':World}(h:MapX base r xs w)(hr:r<base){j:Nat}{p:Int×List UInt8}{g g':List Np.Span}{v:Value}(hj:xs[j]?=some (p,g,v))(hg:w.grownBy w' v.ownBlock)(ho:aI base w' v g'):MapX base r (xs.set j (p,g',v)) w':=by
 have hv:=h.row _ (gQ hj);refine⟨?_,λx hx=>?_,λi i' x y b hx hy=>?_⟩
 ·have e:(xs.set j (p,g',v)).map (λx:fU=>(x.1,x.2.2))=xs.map λx=>(x.1,x.2.2):=by
   rw[List.map_set];apply List.ext_getElem?;intro i;rw[List.getElem?_set];split
   ·rename_i e; subst e;rw[List.length_map,Qb (cQ.1 hj).1,List.getElem?_map,hj]; rfl
   ·rfl
  rw[e];refine h.map.keep' (hg.block r h.map.lt λe2=>?_)
  have:=(World.ownsRow.lt hv r e2.symm).1
  omega
 ·obtain⟨i,hi,rfl⟩:=nQ.1 hx;rw[List.length_set] at hi;rw[List.getElem_set];split
  ·exact ho
  ·rename_i hne;refine fL (h.row _ (List.getElem_mem hi)) λb hb=>hg.block b (World.ownsRow.lt (h.row _ (List.getElem_mem hi)) b hb).2 λe2=>hne ?_;exact h.apart j i _ _ b hj (aQ hi) e2.symm hb
 ·intro hb hb';have get:∀ (k:Nat) (z:fU),(xs.set j (p,g',v))[k]?=some z->∃ z',xs[k]?=some z'/\z'.2.2=z.2.2:=λk z hz=>by
   rw[List.getElem?_set] at hz;split at hz
   ·rename_i e; subst e;rw[Qb (cQ.1 hj).1] at hz
    cases hz
    exact⟨_,hj,rfl⟩
   ·exact⟨z,hz,rfl⟩
  obtain⟨x',hx',ex⟩:=get i x hx;obtain⟨y',hy',ey⟩:=get i' y hy;exact h.apart i i' x' y' b hx' hy' (by rw[ex]; exact hb) (by rw[ey]; exact hb')
theorem XQ(p:Int×List UInt8)(P:Program)(w:World):(Instr.keyThatStays (pH p) (pH p)).run P w = .ok (pH p) w:=by
 have h1:∀ a:ByteArray,(a == a)=true:=λa=>by
  show (a.data == a.data)=true;simp
 have:Instr.sameBits 10000 (pH p) (pH p)=true:=by
  rw[show (10000:Nat)=9998+1+1 from rfl];simp[Instr.sameBits,pH,aH,h1]
 simp[Instr.keyThatStays,this]
section
variable {ops:Array Oper} {rest:List Oper} {o:Oper} {a:Act} {Q:Exit->Act->World->Prop}
theorem Tr(w:World)(hg:o.guard=none)(m x:Operand)(kx:o.op=Op.mapEntry 110 m x)(base r:Nat)(xs:List fU)(hm:a.eval m = .map (some r))(hr:MapX base r xs w)(BB:r<base)(p:Int×List UInt8)(hx:a.eval x=pH p)
 (hK:∀ (w':World) (j:Nat) (g:List Np.Span) (v:Value) (xs':List fU),((xs'=xs/\xs[j]?=some (p,g,v))\/(p∉xs.map (·.1)/\xs'=xs ++ [(p,[],.slice none 0 0)]/\j=xs.length/\g = []/\v = .slice none 0 0))->xs'[j]?=some (p,g,v)->MapX base r xs' w'->Turned r w w'->wpList prog ops Q rest (a.put o.dst (.tuple #[v,.int .i64 (j:Int)])) w'):wpList prog ops Q (o::rest) a w:=by
 obtain⟨es,hes,he,lU⟩:=hr.map;have ht:=underlying110;have hl:r<w.heap.size:=(eQ.1 hes).1;have hf:=acK p w es.toList _ he;have hc:(Instr.checkKey false 10000 112 (pH p)).run prog w = .ok () w:=aaY false p w;refine wpList_plain hg λK' hK'=>?_
 cases jd:(xs.map λx:fU=>(x.1,x.2.2)).lookup p with
 | some v=>
  obtain⟨j,j1,j2,hj⟩:=hf.1 v jd;obtain⟨e,jP,lX⟩:=Option.map_eq_some_iff.1 j1;rw[Array.getElem?_toList] at jP;simp only[Prod.mk.injEq] at lX;rw[List.getElem?_map] at j2;obtain⟨y,sX,pS⟩:=Option.map_eq_some_iff.1 j2;obtain⟨p',g,v'⟩:=y;simp only[Prod.mk.injEq] at pS;obtain⟨rfl,rfl⟩:=pS;have uF:(Instr.keyThatStays (((es[j]?).map (·.key)).getD (pH p')) (pH p')).run prog w = .ok (pH p') w:=by
   rw[jP];simp only[Option.map_some,Option.getD_some];rw[lX.1];exact XQ _ _ w
  have aq:((es[j]?).map (λx=>(x.born:Int))).getD 0=(j:Int):=by
   rw[jP]; simp[lU j e jP]
  have FZ:(es.modify j λe=>{ e with key:=pH p' })=es:=by
   apply Array.ext_getElem?;intro i;rw[Array.getElem?_modify];split
   ·rename_i dL; subst dL;rw[jP];simp[<-lX.1]
   ·rfl
  have dH:(Instr.mapEntry 110 (.map (some r)) (pH p')).run prog w = .ok (.tuple #[v',.int .i64 (j:Int)]) { w with heap:=w.heap.setIfInBounds r (.map es es.size) }:=by
   simp[Instr.mapEntry,run_underlying ht,MapKept.run_getObj_map hes,hc,hj,uF,MapKept.run_setObj_map _ hes,Result.andThen,FZ,aq,goInt]
  unfold Oper.wp;simp[execOp,kx,hm,hx,dH,Result.andThen];have lN:Turned r w { w with heap:=w.heap.setIfInBounds r (.map es es.size) }:=⟨rfl,rfl,rfl,by simp,λi hi=>by simp[Ne.symm hi]⟩;refine hK' _ _ (hK _ j g v' xs (.inl ⟨rfl,sX⟩) sX ⟨⟨es,by simp[hl],he,lU⟩,λx hx=>(hr.row x hx).turned lN BB,hr.apart⟩ lN)
 | none=>
  have hn:=hf.2 jd;have dH:(Instr.mapEntry 110 (.map (some r)) (pH p)).run prog w = .ok (.tuple #[.slice none 0 0,.int .i64 (es.size:Int)]) { w with heap:=w.heap.setIfInBounds r (.map (es.push { key:=pH p,val:=.slice none 0 0,born:=es.size }) (es.size+1)) }:=by
   simp[Instr.mapEntry,run_underlying ht,MapKept.run_getObj_map hes,hc,hn,MapKept.run_setObj_map _ hes,Result.andThen,goInt]
  have an:es.size=xs.length:=by
   have:=Qd List.length he
   simpa using this
  have hni:p∉xs.map (·.1):=by
   have:=XM _ _ jd
   rw[List.map_map] at this;exact this
  unfold Oper.wp;simp[execOp,kx,hm,hx,dH,Result.andThen];have lN:Turned r w { w with heap:=w.heap.setIfInBounds r (.map (es.push { key:=pH p,val:=.slice none 0 0,born:=es.size }) (es.size+1)) }:=⟨rfl,rfl,rfl,by simp,λi hi=>by simp[Ne.symm hi]⟩;refine hK' _ _ (hK _ es.size [] (.slice none 0 0) (xs ++ [(p,[],.slice none 0 0)]) (.inr ⟨hni,rfl,an,rfl,rfl⟩) (by rw[an]; simp) ⟨⟨es.push { key:=pH p,val:=.slice none 0 0,born:=es.size },by simp[hl],by simp[he],λi e hi=>?_⟩,λx hx=>?_,λi j x y b hx hy eF jh=>?_⟩ lN)
  ·rw[Array.getElem?_push] at hi;split at hi
   ·rename_i h1; cases hi; exact h1.symm
   ·exact lU i e hi
  ·rcases List.mem_append.1 hx with hx | hx
   ·exact (hr.row x hx).turned lN BB
   ·rw[List.mem_singleton] at hx; subst hx;exact aI.nil _ _
  ·have get:∀ (k:Nat) (z:fU),(xs ++ [(p,[],Value.slice none 0 0)])[k]?=some z->z.2.2.ownBlock=some b->xs[k]?=some z:=λk z hz lY=>by
    rw[List.getElem?_append] at hz;split at hz
    ·exact hz
    ·have:=gQ hz
     rw[List.mem_singleton] at this; subst this;simp[Value.ownBlock] at lY
   exact hr.apart i j x y b (get i x hx eF) (get j y hy jh) eF jh
end
section
variable {ops:Array Oper} {rest:List Oper} {o:Oper} {a:Act} {Q:Exit->Act->World->Prop}
theorem LL(w:World)(jA:o.guard=none)(s x:Operand)(ho:o.op = .call { callee:=.builtin .append,args:=#[s,x],argTypes:=#[46,46] })
 (base:Nat) (v:Value) (ps:List Np.Span) (hs:a.eval s=v) (hown:aI base w v ps) (blk:Nat) (f u:Int) (hx:a.eval x = .slice (some ⟨blk,0,none⟩) 1 1) (hc:w.cell? ⟨blk,0,none⟩=some (.int .i64 f)) (bC:w.cell? ⟨blk,1,none⟩=some (.int .i64 u)) (hlen:ps.length<=100000) (eS:base<=w.heap.size)
 (h:∀ v' w',aI base w' v' (ps ++ [⟨f,u⟩])->w.grownBy w' v.ownBlock->(v'.ownBlock=v.ownBlock\/v'.ownBlock=some w.heap.size)->wpList prog ops Q rest (a.put o.dst v') w'):wpList prog ops Q (o::rest) a w:=by
 obtain⟨i0,hi,ea,bI,aN⟩:=info_parts Tryz.infoSpan;refine wpList_append_own_at w jA s x 46 ho base 114 i0 (.agg #[.int .i64 0,.int .i64 0]) 2 16 underlying46 hi ea bI aN rfl (by decide) v ps.length (ps.map gq).flatten hs hown ⟨blk,0,none⟩ 1 1 [.int .i64 f,.int .i64 u] hx rfl ?_ (by simp[Value.oneCell']) (by unfold maxLen; omega) (by omega) eS ?_
 ·intro j y hj
  match j,hj with
  | 0,hj=>simp at hj; subst hj; simpa [Addr.add] using hc
  | 1,hj=>simp at hj; subst hj; simpa [Addr.add] using bC
  | j+2,hj=>simp at hj
 ·intro v' w' ho' hg _ hat;refine h v' w' ?_ hg hat;have e:(ps ++ [(⟨f,u⟩:Np.Span)]).length=ps.length+1:=by simp
  unfold aI;rw[e,List.map_append,List.flatten_append];exact ho'
theorem To(w w0:World)(jA:o.guard=none)(m s x:Operand)(kx:o.op=Op.entryStore 110 m s x)(base r:Nat)(xs:List fU)(hX:MapX base r xs w0)(BB:r<base)(j:Nat)(p:Int×List UInt8)(g g':List Np.Span)(v v':Value)
 (hj:xs[j]?=some (p,g,v)) (hg:w0.grownBy w v.ownBlock) (ho:aI base w v' g') (hat:v'.ownBlock=v.ownBlock\/v'.ownBlock=some w0.heap.size) (hm:a.eval m = .map (some r)) (hs:a.eval s = .int .i64 (j:Int)) (hx:a.eval x=v')
 (hK:∀ w',MapX base r (xs.set j (p,g',v')) w'->Turned r w w'->wpList prog ops Q rest (a.put o.dst undef) w'):wpList prog ops Q (o::rest) a w:=by
 obtain⟨es,Th,he,lU⟩:=hX.map;have tR:r<w0.heap.size:=(eQ.1 Th).1;have hv:=hX.row _ (gQ hj);have hes:w.heap[r]?=some (.map es es.size):=(hg.block r tR (λe2=>by have:=(World.ownsRow.lt hv r e2.symm).1; omega)).trans Th;have hl:r<w.heap.size:=(eQ.1 hes).1;have an:es.size=xs.length:=by
  have:=Qd List.length he
  simpa using this
 have od:j<xs.length:=(cQ.1 hj).1;have hfi:es.findIdx? (λe=>(e.born:Int) == (j:Int))=some j:=by
  rw[Array.findIdx?_eq_some_iff_getElem];refine⟨by omega,?_,λi hi=>?_⟩
  ·have:=lU j _ (pQ (by omega))
   simp[this]
  ·have:=lU i _ (pQ (by omega))
   simp[this]; omega
 refine wpList_plain jA λK' hK'=>?_;have dH:(Instr.entryStore 110 (.map (some r)) (.int .i64 (j:Int)) v').run prog w = .ok () { w with heap:=w.heap.setIfInBounds r (.map (es.modify j λe=>{ e with val:=v' }) es.size) }:=by
  simp[Instr.entryStore,MapKept.run_getObj_map hes,hfi,asInt,asIntOf,MapKept.run_setObj_map _ hes,Result.andThen]
 unfold Oper.wp;simp[execOp,kx,hm,hs,hx,dH,Result.andThen];have lN:Turned r w { w with heap:=w.heap.setIfInBounds r (.map (es.modify j λe=>{ e with val:=v' }) es.size) }:=⟨rfl,rfl,rfl,by simp,λi hi=>by simp[Ne.symm hi]⟩;refine hK' _ _ (hK _ ⟨⟨es.modify j λe=>{ e with val:=v' },by simp[hl],?_,λi e hi=>?_⟩,λy hy=>?_,λi i' y y' b hy hy' hb hb'=>?_⟩ lN)
 ·apply List.ext_getElem?;intro i;have hi:=Qd (λl=>l[i]?) he;simp only[List.getElem?_map,Array.getElem?_toList] at hi |-;rw[Array.getElem?_modify,List.getElem?_set];by_cases dL:j=i
  ·subst dL;rw[hj] at hi;rw[Qb rfl,Qb rfl,Qb od];obtain⟨e,jP⟩:∃ e,es[j]?=some e:=⟨_,pQ (by omega)⟩;rw[jP] at hi |-;simp at hi |-;exact hi.1
  ·rw[Qc dL,Qc dL];simpa using hi
 ·rw[Array.getElem?_modify] at hi;split at hi
  ·rename_i dL; subst dL;obtain⟨e',he',rfl⟩:=Option.map_eq_some_iff.1 hi;exact lU j e' he'
  ·exact lU i e hi
 ·obtain⟨i,hi,rfl⟩:=nQ.1 hy;rw[List.length_set] at hi;rw[List.getElem_set];split
  ·exact ho.turned lN BB
  ·rename_i hne;have h1:=hX.row _ (List.getElem_mem hi);have h2:aI base w xs[i].2.2 xs[i].2.1:=fL h1 λb hb=>hg.block b (World.ownsRow.lt h1 b hb).2 λe2=>hne (hX.apart j i _ _ b hj (aQ hi) e2.symm hb);exact h2.turned lN BB
 ·have get:∀ (k:Nat) (z:fU),(xs.set j (p,g',v'))[k]?=some z->(k=j/\z=(p,g',v'))\/(k≠j/\xs[k]?=some z):=λk z hz=>by
   rw[List.getElem?_set] at hz;split at hz
   ·rename_i e; subst e
    first
     | (rw[Qb od] at hz; cases hz; exact .inl ⟨rfl,rfl⟩)
     | (cases hz; exact .inl ⟨rfl,rfl⟩)
   ·rename_i e; exact .inr ⟨λe2=>e e2.symm,hz⟩
  have clash:∀ (k:Nat) (z:fU),k≠j->xs[k]?=some z->z.2.2.ownBlock=some b->v'.ownBlock=some b->False:=λk z hk hz lY ra=>by
   rcases hat with h1 | h1
   ·rw[ra] at h1;exact hk (hX.apart k j _ _ b hz hj lY h1.symm)
   ·rw[ra] at h1
    have:=(World.ownsRow.lt (hX.row _ (gQ hz)) b lY).2
    simp at h1; omega
  rcases get i y hy with ⟨e1,rfl⟩ | ⟨e1,h1⟩
  ·rcases get i' y' hy' with ⟨e2,rfl⟩ | ⟨e2,h2⟩
   ·rw[e1,e2]
   ·exact (clash i' y' e2 h2 hb' hb).elim
  ·rcases get i' y' hy' with ⟨e2,rfl⟩ | ⟨e2,h2⟩
   ·exact (clash i y e1 h1 hb hb').elim
   ·exact hX.apart i i' y y' b h1 h2 hb hb'
structure RangeX(base r I:Nat)(xs:List fU)(seen:Array Nat)(w:World):Prop where
 mapX:MapX base r xs w
 iter:w.heap[I]?=some (.mapIter (some r) xs.length seen xs.length)
 row:∀ x∈xs,x.2.2.ownBlock≠some I
theorem RangeX.ne{base r I:Nat}{xs:List fU}{seen:Array Nat}{w:World}(h:RangeX base r I xs seen w):I≠r:=by
 obtain⟨es,h1,_⟩:=h.mapX.map;intro e
 have:=h.iter
 rw[e,h1] at this
 cases this
theorem RangeX.lt{base r I:Nat}{xs:List fU}{seen:Array Nat}{w:World}(h:RangeX base r I xs seen w):I<w.heap.size:=(eQ.1 h.iter).1
theorem RangeX.keep{base r I:Nat}{xs:List fU}{seen:Array Nat}{w w':World}(h:RangeX base r I xs seen w)(hb:Below w.heap.size w w'):RangeX base r I xs seen w':=⟨h.mapX.keep hb,(hb.block I h.lt).trans h.iter,h.row⟩
theorem RangeX.changed{base r I:Nat}{xs:List fU}{seen:Array Nat}{w w':World}(h:RangeX base r I xs seen w)(hr:r<base){j:Nat}{p:Int×List UInt8}{g g':List Np.Span}{v:Value}(hj:xs[j]?=some (p,g,v))(hg:w.grownBy w' v.ownBlock)(ho:aI base w' v g'):RangeX base r I (xs.set j (p,g',v)) seen w':=by
 have hv:=h.row _ (gQ hj);refine⟨h.mapX.changed hr hj hg ho,?_,λx hx=>?_⟩
 ·rw[List.length_set];exact (hg.block I h.lt (λe=>hv e.symm)).trans h.iter
 ·obtain⟨i,hi,rfl⟩:=nQ.1 hx;rw[List.length_set] at hi;rw[List.getElem_set];split
  ·exact hv
  ·exact h.row _ (List.getElem_mem hi)
theorem MapX.size{base r:Nat}{xs:List fU}{w:World}(h:MapX base r xs w):∃ es,w.heap[r]?=some (.map es xs.length)/\es.size=xs.length/\es.toList.map (λe=>(e.key,e.val))=(xs.map λx=>(x.1,x.2.2)).map (λp=>(pH p.1,p.2))/\∀ (i:Nat) (e:MapEntry),es[i]?=some e->e.born=i:=by
 obtain⟨es,h1,h2,h3⟩:=h.map;have an:es.size=xs.length:=by
  have:=Qd List.length h2
  simpa using this
 exact⟨es,by rw[<-an]; exact h1,an,h2,h3⟩
theorem TI(w:World)(hg:o.guard=none)(m:Operand)(kx:o.op=Op.range 110 m)(base r:Nat)(xs:List fU)(hm:a.eval m = .map (some r))(hX:MapX base r xs w)
 (hK:∀ w',RangeX base r w.heap.size xs #[] w'->Below w.heap.size w w'->w'.heap.size=w.heap.size+1->wpList prog ops Q rest (a.put o.dst (.pointer (some ⟨w.heap.size,0,none⟩))) w'):wpList prog ops Q (o::rest) a w:=by
 obtain⟨es,hes,an,_⟩:=hX.size;have dH:=run_range_map (P:=prog) w 110 _ _ r es xs.length underlying110 hes;refine wpList_plain hg λK' hK'=>?_;unfold Oper.wp;simp[execOp,kx,hm,dH,Result.andThen];have hb:Below w.heap.size w (w.alloc (.mapIter (some r) xs.length #[] xs.length)):=(vQ _ _).alloc (bQ _) _;refine hK' _ _ (hK _ ⟨hX.keep hb,heap_alloc_new _ _,λx hx e=>?_⟩ hb (by simp))
 have:=(World.ownsRow.lt (hX.row x hx) _ e).2
 omega
theorem LR{w w':World}{r I:Nat}(h1:w'.heap[r]?=w.heap[r]?)(h2:w'.heap[I]?=w.heap[I]?):w'.rangeLeft r I=w.rangeLeft r I:=by
 unfold World.rangeLeft;rw[h1,h2]
theorem TZ(w:World)(hg:o.guard=none)(it:Operand)(kx:o.op=Op.next it false)(base r I:Nat)(xs:List fU)(seen:Array Nat)(hit:a.eval it = .pointer (some ⟨I,0,none⟩))(h:RangeX base r I xs seen w)
 (aGJ:(∀ j,j<xs.length->seen.contains j=true)->wpList prog ops Q rest (a.put o.dst (.tuple #[.bool false])) w)
 (aiK:∀ (j:Nat) (p:Int×List UInt8) (g:List Np.Span) (v:Value) (w':World),xs[j]?=some (p,g,v)->RangeX base r I xs (seen.push j) w'->Turned I w w'->w'.rangeLeft r I<w.rangeLeft r I->(Instr.entry (.pointer (some ⟨I,0,none⟩))).run prog w' = .ok (.tuple #[pH p,v]) w'->wpList prog ops Q rest (a.put o.dst (.tuple #[.bool true,pH p,v])) w') :
 wpList prog ops Q (o::rest) a w:=by
 have hne:=h.ne;obtain⟨es,hes,an,he,lU⟩:=h.mapX.size;have hold:∀ x∈es.toList,x.born<xs.length:=λx hx=>by
  obtain⟨i,hi,rfl⟩:=nQ.1 hx;have hi':i<es.size:=by simpa using hi
  have:=lU i es[i] (pQ hi')
  simp only[Array.getElem_toList];omega
 refine wpList_plain hg λK' hK'=>?_;unfold Oper.wp;rcases run_next_at (P:=prog) w o.type I r xs.length xs.length seen es xs.length h.iter hes hold (bQ _) with ⟨h0,dH⟩ | ⟨e,xp,w1,iK,dH⟩
 ·simp[execOp,kx,hit,dH,Result.andThen];refine hK' _ _ (aGJ λj hj=>?_);have h1:=all_seen es seen h0 es[j] (by simp);rwa [lU j es[j] (pQ (by omega))] at h1
 ·obtain⟨hem,bpJ⟩:=mem_left xp;obtain⟨j,hj,sr⟩:=nQ.1 hem;have hj':j<es.size:=by simpa using hj
  have RI:es[j]?=some e:=by rw[pQ hj',<-sr]; simp
  have J3:=lU j e RI;obtain⟨⟨p,g,v⟩,hx⟩:∃ x,xs[j]?=some x:=⟨_,aQ (by omega)⟩;have hkv:e.key=pH p/\e.val=v:=by
   have hi:=Qd (λl=>l[j]?) he;simp only[List.getElem?_map,Array.getElem?_toList] at hi;rw[RI,hx] at hi;simpa using hi
  obtain⟨bV,kW⟩:=hkv;rw[J3] at dH;have gw:w1.heap[I]?=some (.mapIter (some r) xs.length seen xs.length):=by rcases iK with rfl | rfl <;> exact h.iter
  have Lf:I<w1.heap.size:=(eQ.1 gw).1;have aq:w1.heap[r]?=some (.map es xs.length):=by rcases iK with rfl | rfl <;> exact hes
  have aw:Below w.heap.size w w1:=by rcases iK with rfl | rfl; exact vQ _ _; exact (vQ _ _).drew
  have sh:w1.heap.size=w.heap.size:=by rcases iK with rfl | rfl <;> rfl
  obtain⟨w2,ai⟩:∃ w2,Go.ChangeMaps.setBlock w1 I (.mapIter (some r) xs.length (seen.push j) xs.length)=w2:=⟨_,rfl⟩;have wR:w2.heap[I]?=some (.mapIter (some r) xs.length (seen.push j) xs.length):=by rw[<-ai]; simp[Go.ChangeMaps.setBlock,Lf]
  have Rz:∀ i,i≠I->w2.heap[i]?=w1.heap[i]?:=λi hi=>by rw[<-ai]; simp[Go.ChangeMaps.setBlock,Ne.symm hi]
  have ax:w1.heap=w.heap:=by rcases iK with rfl | rfl <;> rfl
  have lN:Turned I w w2:=⟨by rw[<-ai]; exact aw.os,by rw[<-ai]; exact aw.tape,by rw[<-ai]; exact aw.output,by rw[<-ai]; simp[Go.ChangeMaps.setBlock,sh],λi hi=>by rw[Rz i hi,ax]⟩;have aa:w2.heap[r]?=some (.map es xs.length):=(Rz r (Ne.symm hne)).trans aq;rw[ai] at dH;simp[execOp,kx,hit,dH,Result.andThen];rw[bV,kW];refine hK' _ _ (aiK j p g v w2 hx ⟨h.mapX.turned lN hne h.row,wR,h.row⟩ lN ?_ ?_)
  ·have:=left_shrinks es seen e xp
   rw[J3] at this;unfold World.rangeLeft;rw[aa,wR,hes,h.iter];exact this
  ·have nW:(es.toList.map (·.born)).Nodup:=by
    rw[List.nodup_iff_pairwise_ne,List.pairwise_iff_getElem];intro i k hi hk hik;have hi':i<es.size:=by simpa using hi
    have hk':k<es.size:=by simpa using hk
    have h1:=lU i es[i] (pQ hi');have h2:=lU k es[k] (pQ hk');simp only[List.getElem_map,Array.getElem_toList];omega
   have:=run_entry_at (P:=prog) w2 I r xs.length seen es xs.length e (by rw[J3]; exact wR) aa hem nW
   rw[bV,kW] at this;exact this
end
end
section
open Go.RowKit Go.Sort Go.Shelf
def Np.fq:List Np.Span->Np.Span->Bool->List Np.Span
 | [],s,put=>if put then [] else [s]
 | x::l,s,put=>if x.til<s.frm then x::fq l s put else if s.til<x.frm then (if put then [] else [s])++x::fq l s true else fq l ⟨min s.frm x.frm,max s.til x.til⟩ put
theorem NI:∀ (l:List Np.Span) (s:Np.Span),(∀ x∈l,s.til<x.frm/\x.frm<x.til)->s.frm<s.til->Np.fq l s true=l
 | [],_,_,_=>rfl
 | x::l,s,h,hs=>by
   obtain⟨h1,h2⟩:=h x (by simp);rw[Np.fq,Qc (by omega),Qb h1,NI l s (λy hy=>h y (mQ _ hy)) hs];rfl
theorem He:∀ (l:List Np.Span) (s:Np.Span),Np.ApartS l->s.frm<s.til->Np.fq l s false=Np.nH l s
 | [],_,_,_=>rfl
 | x::l,s,hl,hs=>by
   have hx:=hl.full x (by simp);rw[Np.fq,Np.nH];split
   ·rw[He l s hl.tail hs]
   ·split
    ·rename_i h1 h2;rw[NI l s (λy hy=>⟨?_,hl.full y (mQ _ hy)⟩) hs]
     ·rfl
     ·have:=(List.pairwise_cons.1 hl.apart).1 y hy
      omega
    ·exact He l _ hl.tail (by simp; omega)
theorem Do:∀ (l:List Np.Span) (s:Np.Span),(Np.fq l s true).length<=l.length
 | [],_=>by simp[Np.fq]
 | x::l,s=>by
   rw[Np.fq];split
   ·have:=Do l s; simp; omega
   ·split
    ·have:=Do l s; simp; omega
    ·have:=Do l ⟨min s.frm x.frm,max s.til x.til⟩; simp; omega
theorem GT:∀ (l:List Np.Span) (s:Np.Span),(Np.fq l s false).length<=l.length+1
 | [],_=>by simp[Np.fq]
 | x::l,s=>by
   rw[Np.fq];split
   ·have:=GT l s; simp; omega
   ·split
    ·have:=Do l s; simp; omega
    ·have:=GT l ⟨min s.frm x.frm,max s.til x.til⟩; simp; omega
structure SpBox(W:World)(b:Nat)(f u:Int):Prop where
 c0:W.cell? ⟨b,0,none⟩=some (.int .i64 f)
 c1:W.cell? ⟨b,1,none⟩=some (.int .i64 u)
 f0:W.frozen? ⟨b,0,none⟩=false
 f1:W.frozen? ⟨b,1,none⟩=false
 lt:b<W.heap.size
theorem SpBox.keep{W W':World}{b:Nat}{f u:Int}(h:SpBox W b f u){B:Nat}(hb:Below B W W')(hB:b<B):SpBox W' b f u:=
 ⟨(hb.cell hB).trans h.c0,(hb.cell hB).trans h.c1,(hb.frozen hB).trans h.f0,(hb.frozen hB).trans h.f1,lQ h.lt hb.size⟩
theorem SpBox.put0{W:World}{b:Nat}{f u:Int}(h:SpBox W b f u)(f':Int):SpBox (W.setCell ⟨b,0,none⟩ (.int .i64 f')) b f' u:=
 ⟨World.cell?_setCell_same _ _ _ h.c0,(xQ _ _ _ _ (by simp)).trans h.c1,(World.frozen?_setCell _ _ _ _).trans h.f0,(World.frozen?_setCell _ _ _ _).trans h.f1,by simpa using h.lt⟩
theorem SpBox.put1{W:World}{b:Nat}{f u:Int}(h:SpBox W b f u)(u':Int):SpBox (W.setCell ⟨b,1,none⟩ (.int .i64 u')) b f u':=
 ⟨(xQ _ _ _ _ (by simp)).trans h.c0,World.cell?_setCell_same _ _ _ h.c1,(World.frozen?_setCell _ _ _ _).trans h.f0,(World.frozen?_setCell _ _ _ _).trans h.f1,by simpa using h.lt⟩
theorem aI.other{base:Nat}{W:World}{v:Value}{ps:List Np.Span}(h:aI base W v ps){p:Addr}(hp:p.block<base)(u:Value):aI base (W.setCell p u) v ps:=ownsRow_setCell_below h hp u
structure SpAt(W:World)(b j:Nat)(f u:Int):Prop where
 c0:W.cell? ⟨b,j,none⟩=some (.int .i64 f)
 c1:W.cell? ⟨b,j+1,none⟩=some (.int .i64 u)
theorem SpAt.keep{W W':World}{b j:Nat}{f u:Int}(h:SpAt W b j f u){B:Nat}(hb:Below B W W')(hB:b<B):SpAt W' b j f u:=⟨(hb.cell hB).trans h.c0,(hb.cell hB).trans h.c1⟩
theorem vx{W:World}{B b o n c k:Nat}{l:List Np.Span}{x:Np.Span}(h:SlR cV 2 W B (.slice (some ⟨b,o,none⟩) n c) l)(hx:l[k]?=some x):b<B/\SpAt W b (o+k * 2) x.frm x.til:=by
 obtain⟨A',c',hA',_,_,bU⟩:=h
 cases hA'
 obtain⟨b',o',e,hA,cD,hlen,hce,hR⟩:=bU k _ hx
 cases hA
 obtain rfl:=hR;exact⟨cD,hce 0 _ rfl,hce 1 _ rfl⟩
theorem yj{α:Type}{R:World->Nat->List Value->α->Prop}{sz:Nat}{W:World}{B:Nat}{A:Option Addr}{n c k:Nat}{l:List α}(h:SlR R sz W B (.slice A n c) l)(hk:k<l.length):∃ b o,A=some ⟨b,o,none⟩:=by
 obtain⟨A',c',hA',_,_,bU⟩:=h
 cases hA'
 obtain⟨b',o',e,hA,_⟩:=bU k _ (aQ hk);exact⟨b',o',hA⟩
structure WithK(X:Nat)(w W:World)(v:Value)(oo:List Np.Span)(fr ti:Int)(b j:Nat)(xf xu:Int):Prop where
 below:Below X w W
 own:aI (X+1) W v oo
 box:SpBox W X fr ti
 at_:SpAt W b j xf xu
theorem WithK.keep{X:Nat}{w W W':World}{v:Value}{oo:List Np.Span}{fr ti:Int}{b j:Nat}{xf xu:Int}(h:WithK X w W v oo fr ti b j xf xu)(hb:Below W.heap.size W W')(aY:b<X):WithK X w W' v oo fr ti b j xf xu:=
 ⟨h.below.trans (hb.mono (Nat.le_of_lt h.box.lt)),h.own.keep hb,h.box.keep hb h.box.lt,h.at_.keep hb (Nat.lt_trans aY h.box.lt)⟩
theorem WithK.own'{X:Nat}{w W W':World}{v v':Value}{oo oo':List Np.Span}{fr ti:Int}{b j:Nat}{xf xu:Int}(h:WithK X w W v oo fr ti b j xf xu)(hb:Below (X+1) W W')(aY:b<X)(ho:aI (X+1) W' v' oo'):WithK X w W' v' oo' fr ti b j xf xu:=
 ⟨h.below.trans (hb.mono (Nat.le_succ _)),ho,h.box.keep hb (Nat.lt_succ_self _),h.at_.keep hb (by omega)⟩
theorem WithK.put0{X:Nat}{w W:World}{v:Value}{oo:List Np.Span}{fr ti:Int}{b j:Nat}{xf xu:Int}(h:WithK X w W v oo fr ti b j xf xu)(aY:b<X)(u:Int):WithK X w (W.setCell ⟨X,0,none⟩ (.int .i64 u)) v oo u ti b j xf xu:=
 ⟨h.below.setCell (bQ _) _,h.own.other (by simp) _,h.box.put0 u,(xQ _ _ _ _ (by simp <;> omega)).trans h.at_.c0,(xQ _ _ _ _ (by simp <;> omega)).trans h.at_.c1⟩
theorem WithK.put1{X:Nat}{w W:World}{v:Value}{oo:List Np.Span}{fr ti:Int}{b j:Nat}{xf xu:Int}(h:WithK X w W v oo fr ti b j xf xu)(aY:b<X)(u:Int):WithK X w (W.setCell ⟨X,1,none⟩ (.int .i64 u)) v oo fr u b j xf xu:=
 ⟨h.below.setCell (bQ _) _,h.own.other (by simp) _,h.box.put1 u,(xQ _ _ _ _ (by simp <;> omega)).trans h.at_.c0,(xQ _ _ _ _ (by simp <;> omega)).trans h.at_.c1⟩
theorem Yr(v:Value)(l:List Np.Span)(s:Np.Span)(cu:l.length<=20000)(hs:s.frm<s.til)(w:World)(h:SlR cV 2 w w.heap.size v l) :
 Calls prog 192 #[v,.agg #[.int .i64 s.frm,.int .i64 s.til]] w (λe w'=>∃ v',e = .returned v'/\aI w.heap.size w' v' (Np.fq l s false)/\Below w.heap.size w w'):=by
 have HD:=jq h;obtain⟨A,c,rfl,bC,bH⟩:=ag h;clear h;have nf:Hid ((Np.fq l s false).length<=20001):=jq (by have:=GT l s; omega);obtain⟨sf,su⟩:=s;dsimp only at hs;have oW:decide (su<=sf)=false:=tQ (by omega);go_enter func192,ntmps192;go_wp2_with fail;obtain⟨w1,al⟩:∃ w1,w.alloc (.cells #[.int .i64 sf,.int .i64 su] 114)=w1:=⟨_,rfl⟩;obtain⟨X,hX⟩:∃ X,w.heap.size=X:=⟨_,rfl⟩;have HX:Hid (SpBox w1 X sf su):=jq (by rw[<-al,<-hX]; exact⟨by simp[go_sem],by simp[go_sem],by simp[go_sem],by simp[go_sem],by simp⟩);have bI:w1.heap.size=X+1:=by rw[<-al,<-hX]; simp
 have aF:Hid (Below X w w1):=jq (by rw[<-al,<-hX]; exact (vQ _ _).alloc (bQ _) _);rw[al,hX];clear al;rw[hX] at HD;go_loopw [5,6,7] (λvo vp i wr=>∃ (k:Nat) (o:List Np.Span) (put:Bool) (fr ti:Int),k<=l.length/\i = .int .i64 k/\vp = .bool put/\Hid (Below X w wr)/\Hid (aI (X+1) wr vo o)/\Hid (SpBox wr X fr ti)/\Hid (o++Np.fq (l.drop k) ⟨fr,ti⟩ put=Np.fq l ⟨sf,su⟩ false)) (λ_ _ i _=>l.length - (intOf i).toNat)
 case atStart=>exact⟨0,[],false,sf,su,jQ _,rfl,rfl,aF,jq (aI.nil _ _),HX,jq rfl⟩
 case round=>
  obtain⟨k,oo,put,fr,ti,hk,rfl,rfl,HB,HO,dI,HG⟩:=hrel;have an:=HB.out.size;have iN:=dI.out.lt;have bL:X<=wr.heap.size:=Nat.le_of_lt iN;have kG:Hid (oo.length<=30000):=jq (by have:=nf.out; rw[<-HG.out,List.length_append] at this; omega);have x0:=dI.out.c0;have x1:=dI.out.c1;have xf0:=dI.out.f0;have xf1:=dI.out.f1;by_cases ab:k<l.length
  ·obtain⟨x,ac⟩:∃ x,l[k]?=some x:=⟨_,aQ ab⟩;have ia:=HD.out.keep fE HB.out;obtain⟨b,o,rfl⟩:=yj ia ab;obtain⟨cD,hat⟩:=vx ia ac;clear ia;have h0:=hat.c0;have h1:=hat.c1;have HT:Hid (l.drop k=x::l.drop (k+1)):=jq (by
    obtain⟨hl,he⟩:=cQ.1 ac;rw[sQ hl,he])
   have dF:b<wr.heap.size:=by omega
   have aY:b≠X:=by omega
   obtain⟨xf,xu⟩:=x;dsimp only at h0 h1 hat;have HAT:=jq hat;clear ac hat;have aY:b<X:=cD;have HK:Hid (WithK X w wr u5 oo fr ti b (o+k * 2) xf xu):=jq ⟨HB.out,HO.out,dI.out,HAT.out⟩;clear HB HO dI HAT cD dF;by_cases nP:xu<fr
   ·have hd:decide (xu<fr)=true:=uQ nP;have oe:Hid ((oo ++ [⟨xf,xu⟩])++Np.fq (l.drop (k+1)) ⟨fr,ti⟩ put=Np.fq l ⟨sf,su⟩ false):=jq (by rw[<-HG.out,HT.out,Np.fq,Qb nP]; simp);clear nP;go_wp2_with fail;go_quiet (fail);obtain⟨w2,ai⟩:∃ w2,wr.drewN nq=w2:=⟨_,rfl⟩;have dg:Hid (WithK X w w2 _ _ _ _ b (o+k * 2) xf xu):=jq (by rw[<-ai]; exact HK.out.keep (below_drewN (vQ _ _) _) aY);rw[ai];clear ai x0 x1 xf0 xf1 iN h0 h1;have x0:=dg.out.box.c0;have x1:=dg.out.box.c1;have xf0:=dg.out.box.f0;have xf1:=dg.out.box.f1;have iN:=dg.out.box.lt;have h0:=dg.out.at_.c0;have h1:=dg.out.at_.c1;go_wp2_with (at_builtin; refine tn _ rfl _ _ rfl (X+1) _ (oo) rfl (dg.out.own.alloc _) w2.heap.size xf xu (by simp[go_sem]) (by simp[go_sem]) (by simp[go_sem]) (by have:=kG.out; omega) (by simp; omega) ?_; intro v5 w5 eN aA; have H5:=jq (And.intro eN aA); clear eN aA);have ja:=jq ((dg.out.keep ((vQ _ _).alloc (bQ _) _) aY).own' H5.out.2 aY H5.out.1);go_roundw
    case rel=>exact⟨k+1,oo ++ [⟨xf,xu⟩],put,fr,ti,by omega,by go_num,rfl,jq ja.out.below,jq ja.out.own,jq ja.out.box,oe⟩
    case measure=>simp[intOf] <;> omega
   ·have hd:decide (xu<fr)=false:=tQ nP;by_cases kp:ti<xf
    ·have kA:decide (ti<xf)=true:=uQ kp;have oe:Hid ((oo++(if put then [] else [⟨fr,ti⟩])) ++ [⟨xf,xu⟩]++Np.fq (l.drop (k+1)) ⟨fr,ti⟩ true=Np.fq l ⟨sf,su⟩ false):=jq (by rw[<-HG.out,HT.out,Np.fq,Qc nP,Qb kp]; simp);clear nP kp
     cases put with
     | true=>
      go_wp2_with fail;go_quiet (fail);obtain⟨w2,ai⟩:∃ w2,wr.drewN nq=w2:=⟨_,rfl⟩;have dg:Hid (WithK X w w2 _ _ _ _ b (o+k * 2) xf xu):=jq (by rw[<-ai]; exact HK.out.keep (below_drewN (vQ _ _) _) aY);rw[ai];clear ai x0 x1 xf0 xf1 iN h0 h1;have x0:=dg.out.box.c0;have x1:=dg.out.box.c1;have xf0:=dg.out.box.f0;have xf1:=dg.out.box.f1;have iN:=dg.out.box.lt;have h0:=dg.out.at_.c0;have h1:=dg.out.at_.c1;go_wp2_with fail;go_quiet (fail);obtain⟨w3,ai⟩:∃ w3,w2.drewN nq=w3:=⟨_,rfl⟩;have f8:Hid (WithK X w w3 _ _ _ _ b (o+k * 2) xf xu):=jq (by rw[<-ai]; exact dg.out.keep (below_drewN (vQ _ _) _) aY);rw[ai];clear ai x0 x1 xf0 xf1 iN h0 h1;have x0:=f8.out.box.c0;have x1:=f8.out.box.c1;have xf0:=f8.out.box.f0;have xf1:=f8.out.box.f1;have iN:=f8.out.box.lt;have h0:=f8.out.at_.c0;have h1:=f8.out.at_.c1;go_wp2_with (at_builtin; refine tn _ rfl _ _ rfl (X+1) _ (oo) rfl (f8.out.own.alloc _) w3.heap.size xf xu (by simp[go_sem]) (by simp[go_sem]) (by simp[go_sem]) (by have:=kG.out; omega) (by simp; omega) ?_; intro v5 w5 eN aA; have H5:=jq (And.intro eN aA); clear eN aA);have ja:=jq ((f8.out.keep ((vQ _ _).alloc (bQ _) _) aY).own' H5.out.2 aY H5.out.1);go_roundw
      case rel=>exact⟨k+1,oo ++ [⟨xf,xu⟩],true,fr,ti,by omega,by go_num,rfl,jq ja.out.below,jq ja.out.own,jq ja.out.box,jq (by have:=oe.out; simpa using this)⟩
      case measure=>simp[intOf] <;> omega
     | false=>
      go_wp2_with fail;go_quiet (fail);obtain⟨w2,ai⟩:∃ w2,wr.drewN nq=w2:=⟨_,rfl⟩;have dg:Hid (WithK X w w2 _ _ _ _ b (o+k * 2) xf xu):=jq (by rw[<-ai]; exact HK.out.keep (below_drewN (vQ _ _) _) aY);rw[ai];clear ai x0 x1 xf0 xf1 iN h0 h1;have x0:=dg.out.box.c0;have x1:=dg.out.box.c1;have xf0:=dg.out.box.f0;have xf1:=dg.out.box.f1;have iN:=dg.out.box.lt;have h0:=dg.out.at_.c0;have h1:=dg.out.at_.c1;go_wp2_with fail;go_quiet (fail);obtain⟨w3,ai⟩:∃ w3,w2.drewN nq=w3:=⟨_,rfl⟩;have f8:Hid (WithK X w w3 _ _ _ _ b (o+k * 2) xf xu):=jq (by rw[<-ai]; exact dg.out.keep (below_drewN (vQ _ _) _) aY);rw[ai];clear ai x0 x1 xf0 xf1 iN h0 h1;have x0:=f8.out.box.c0;have x1:=f8.out.box.c1;have xf0:=f8.out.box.f0;have xf1:=f8.out.box.f1;have iN:=f8.out.box.lt;have h0:=f8.out.at_.c0;have h1:=f8.out.at_.c1;go_wp2_with (at_builtin; first | (refine tn _ rfl _ _ rfl (X+1) _ oo rfl (f8.out.own.alloc _) w3.heap.size fr ti (by simp[go_sem]) (by simp[go_sem]) (by simp[go_sem]) (by have:=kG.out; omega) (by simp; omega) ?_; intro v5 w5 eN aA; have ja:Hid (WithK X w w5 v5 (oo ++ [⟨fr,ti⟩]) fr ti b (o+k * 2) xf xu):=jq ((f8.out.keep ((vQ _ _).alloc (bQ _) _) aY).own' aA aY eN); clear eN aA x0 x1 xf0 xf1 iN h0 h1; have x0:=ja.out.box.c0; have x1:=ja.out.box.c1; have xf0:=ja.out.box.f0; have xf1:=ja.out.box.f1; have iN:=ja.out.box.lt; have h0:=ja.out.at_.c0; have h1:=ja.out.at_.c1) | (refine tn _ rfl _ _ rfl (X+1) _ (oo ++ [⟨fr,ti⟩]) rfl (ja.out.own.alloc _) w5.heap.size xf xu (by simp[go_sem]) (by simp[go_sem]) (by simp[go_sem]) (by have:=kG.out; simp; omega) (by simp; omega) ?_; intro v6 w6 lW aW; have H6:=jq (And.intro lW aW); clear lW aW));have JN:=jq ((ja.out.keep ((vQ _ _).alloc (bQ _) _) aY).own' H6.out.2 aY H6.out.1);go_roundw
      case rel=>exact⟨k+1,oo ++ [⟨fr,ti⟩] ++ [⟨xf,xu⟩],true,fr,ti,by omega,by go_num,rfl,jq JN.out.below,jq JN.out.own,jq JN.out.box,jq (by have:=oe.out; simpa using this)⟩
      case measure=>simp[intOf] <;> omega
    ·have kA:decide (ti<xf)=false:=tQ kp;have oe:Hid (oo++Np.fq (l.drop (k+1)) ⟨min fr xf,max ti xu⟩ put=Np.fq l ⟨sf,su⟩ false):=jq (by rw[<-HG.out,HT.out,Np.fq,Qc nP,Qc kp]);clear nP kp;go_wp2_with fail;go_quiet (fail);obtain⟨w2,ai⟩:∃ w2,wr.drewN nq=w2:=⟨_,rfl⟩;have dg:Hid (WithK X w w2 _ _ _ _ b (o+k * 2) xf xu):=jq (by rw[<-ai]; exact HK.out.keep (below_drewN (vQ _ _) _) aY);rw[ai];clear ai x0 x1 xf0 xf1 iN h0 h1;have x0:=dg.out.box.c0;have x1:=dg.out.box.c1;have xf0:=dg.out.box.f0;have xf1:=dg.out.box.f1;have iN:=dg.out.box.lt;have h0:=dg.out.at_.c0;have h1:=dg.out.at_.c1;go_wp2_with fail;go_quiet (fail);obtain⟨w3,ai⟩:∃ w3,w2.drewN nq=w3:=⟨_,rfl⟩;have f8:Hid (WithK X w w3 _ _ _ _ b (o+k * 2) xf xu):=jq (by rw[<-ai]; exact dg.out.keep (below_drewN (vQ _ _) _) aY);rw[ai];clear ai x0 x1 xf0 xf1 iN h0 h1;have x0:=f8.out.box.c0;have x1:=f8.out.box.c1;have xf0:=f8.out.box.f0;have xf1:=f8.out.box.f1;have iN:=f8.out.box.lt;have h0:=f8.out.at_.c0;have h1:=f8.out.at_.c1;go_wp2_with fail;go_region;obtain⟨w4,ai⟩:∃ w4,(w3.setCell ⟨X,0,none⟩ (.int .i64 (min fr xf))).drew=w4:=⟨_,rfl⟩;have qL:Hid (WithK X w w4 _ _ _ _ b (o+k * 2) xf xu):=jq (by rw[<-ai]; exact (f8.out.put0 aY _).keep (vQ _ _).drew aY);rw[ai];clear ai x0 x1 xf0 xf1 iN h0 h1;have x0:=qL.out.box.c0;have x1:=qL.out.box.c1;have xf0:=qL.out.box.f0;have xf1:=qL.out.box.f1;have iN:=qL.out.box.lt;have h0:=qL.out.at_.c0;have h1:=qL.out.at_.c1;go_wp2_with fail;go_region;obtain⟨w5,ai⟩:∃ w5,(w4.setCell ⟨X,1,none⟩ (.int .i64 (max ti xu))).drew=w5:=⟨_,rfl⟩;have ja:Hid (WithK X w w5 _ _ _ _ b (o+k * 2) xf xu):=jq (by rw[<-ai]; exact (qL.out.put1 aY _).keep (vQ _ _).drew aY);rw[ai];clear ai;go_wp2_with fail;go_roundw
     case rel=>exact⟨k+1,oo,put,_,_,by omega,by go_num,rfl,jq ja.out.below,jq ja.out.own,jq ja.out.box,oe⟩
     case measure=>simp[intOf] <;> omega
  ·have HE:Hid (l.drop k = []):=jq (List.drop_eq_nil_of_le (by omega))
   cases put with
   | true=>
    have HR:Hid (oo=Np.fq l ⟨sf,su⟩ false):=jq (by have:=HG.out; rw[HE.out] at this; simpa [Np.fq] using this);go_wp2_with fail;go_ret;refine⟨_,rfl,?_,?_⟩
    ·rw[hX]; have:=HO.out.weak (Nat.le_succ X); rw[HR.out] at this; exact this
    ·rw[hX]; exact HB.out
   | false=>
    have HR:Hid (oo ++ [⟨fr,ti⟩]=Np.fq l ⟨sf,su⟩ false):=jq (by have:=HG.out; rw[HE.out] at this; simpa [Np.fq] using this);go_wp2_with (at_builtin; refine tn _ rfl _ _ rfl (X+1) _ oo rfl (HO.out.alloc _) wr.heap.size fr ti (by simp[go_sem]) (by simp[go_sem]) (by simp[go_sem]) (by have:=kG.out; omega) (by simp; omega) ?_; intro v5 w5 eN aA; have H5:=jq (And.intro eN aA); clear eN aA);go_ret;refine⟨_,rfl,?_,?_⟩
    ·rw[hX]; have:=H5.out.1.weak (Nat.le_succ X); rw[HR.out] at this; exact this
    ·rw[hX]; exact (HB.out.alloc bL _).trans (H5.out.2.mono (Nat.le_succ X))
end
end Go.Proofs.YtbfbobfbgabjiaaGreatDoor
