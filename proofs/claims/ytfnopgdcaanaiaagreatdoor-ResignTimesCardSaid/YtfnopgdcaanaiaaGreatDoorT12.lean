/- Parts of the proof. No condition. -/
import Derived.Sort.CutIn
import Derived.Test.YtfnopgdcaanaiaaGreatDoorT07
import Derived.Test.YtfnopgdcaanaiaaGreatDoorT08
import Derived.Test.YtfnopgdcaanaiaaGreatDoorT09
set_option linter.all false
set_option maxRecDepth 100000
set_option maxHeartbeats 8000000
namespace Go.Proofs.YtfnopgdcaanaiaaGreatDoor
open Go.Proofs.Tryz
section
open Go.RowKit Go.Sort Go.Shelf
def Np.MD(l:List Np.Span):Prop:=∀ s∈l,s.frm<s.til
theorem Vp(f u f' u':Int)(w:World):(binOp .neq 110 (.agg #[.int .i64 f,.int .i64 u]) (.agg #[.int .i64 f',.int .i64 u'])).run prog w = .ok (.bool (decide ((⟨f,u⟩:Np.Span)≠⟨f',u'⟩))) w:=by
 have u3:=underlying3;have a3:=isAgg3;have z3:=sizeOf3;have hS:prog.underlying 110=some (.struct (prog.fieldsOf 110)):=by kernel_rfl
 have hp:prog.stoodInHeld 110=false:=by kernel_rfl
 rw[run_neq_struct,show (10000:Nat)=9999+1 from rfl,run_equalIn_agg w 9999 110 _ _ hS hp];simp only[Program.fieldsOf,underlying110];go_simp;by_cases h1:f=f' <;> by_cases h2:u=u' <;> simp[h1,h2]
theorem Lw(v v':Value)(l m:List Np.Span)(w:World)(h:SlR cm 2 w w.heap.size v l)(h':SlR cm 2 w w.heap.size v' m) :
 Calls prog 21 #[v,v'] w (λe w'=>e = .returned (.bool (decide (l=m)))/\Below w.heap.size w w'):=by
 have HL:=jq h;have HM:=jq h';obtain⟨A,c,rfl,aT,cu⟩:=ar h;obtain⟨A',c',rfl,Sb,Al⟩:=ar h';clear h h';by_cases hlen:l.length=m.length
 ·have Gj:=jq hlen;obtain⟨n,hn⟩:=abY m.length;rw[hn] at Sb Al hlen;have HN:=jq hn;rw[hlen] at aT cu;rw[hn,hlen];have um:=jq hlen;clear hlen hn;go_enter func21,ntmps21;go_wp2_with fail;go_loopw [5] (λi wr=>∃ (k:Nat),k<=n/\i = .int .i64 k/\Hid (Below w.heap.size w wr)/\Hid (l.take k=m.take k)) (λi _=>n - (intOf i).toNat)
  case atStart=>exact⟨0,jQ _,rfl,jq (vQ _ _),jq rfl⟩
  case round=>
   obtain⟨k,hk,rfl,HB,HT⟩:=hrel;have ag:=HB.out.size;by_cases aa:k<n
   ·have vM:=um.out;have JU:=HN.out;obtain⟨x,hx⟩:∃ x,l[k]?=some x:=⟨_,aQ (by omega)⟩;obtain⟨y,hy⟩:∃ y,m[k]?=some y:=⟨_,aQ (by omega)⟩;have jv:=HL.out.keep cI HB.out;have yk:=HM.out.keep cI HB.out;rw[vM] at jv;rw[JU] at yk;obtain⟨b,o,rfl⟩:=xE (k:=k) jv (by omega);obtain⟨b',o',rfl⟩:=xE (k:=k) yk (by omega);obtain⟨bC,hat⟩:=tE jv hx;obtain⟨I9,sw⟩:=tE yk hy;have h0:=hat.c0;have h1:=hat.c1;have h0':=sw.c0;have h1':=sw.c1;have gS:Hid (x=y->l.take (k+1)=m.take (k+1)):=jq (λe=>by
     obtain⟨q1,q2⟩:=cQ.1 hx;obtain⟨q3,q4⟩:=cQ.1 hy;rw[fQ q1,fQ q3,q2,q4,HT.out,e])
    have nm:Hid (x≠y->decide (l=m)=false):=jq (λe=>tQ (by rintro rfl;rw[hx] at hy;exact e (by simpa using hy)));have cN:(0:Int)<=(k:Int):=by omega
    have cO:(k:Int)<(n:Int):=by omega
    have heq:=Vp x.frm x.til y.frm y.til;clear jv yk hat sw hx hy vM JU;by_cases ep:x=y
    ·have HX:=jq (gS.out ep);have wS:decide ((⟨x.frm,x.til⟩:Np.Span)≠⟨y.frm,y.til⟩)=false:=by rw[ep];simp
     rw[wS] at heq;clear wS ep;go_wp2_with fail;go_quiet (fail);go_wp2_with fail;go_roundw
     case rel=>exact⟨k+1,by omega,by go_num,jq (below_drewN HB.out _),HX⟩
     case measure=>simp[intOf] <;> omega
    ·have HX:=jq (nm.out ep);have wS:decide ((⟨x.frm,x.til⟩:Np.Span)≠⟨y.frm,y.til⟩)=true:=uQ ep;rw[wS] at heq;clear wS ep;go_wp2_with fail;go_quiet (fail);go_wp2_with fail;go_ret;exact⟨aj HX.out.symm,below_drewN HB.out _⟩
   ·have HE:Hid (decide (l=m)=true):=jq (uQ (by
     have:=HT.out
     rwa [kQ (by have:=um.out;omega),kQ (by have:=HN.out;omega)] at this))
    go_wp2_with fail;go_ret;exact⟨aj HE.out.symm,HB.out⟩
 ·have hne:(l.length:Int)≠(m.length:Int):=by omega
  have hd:decide ((l.length:Int)=(m.length:Int))=false:=tQ hne;have HE:Hid (decide (l=m)=false):=jq (tQ (by rintro rfl;exact hlen rfl));have hb:((l.length:Int) == (m.length:Int))=false:=by simpa using hne
  go_enter func21,ntmps21;go_wp2_with fail;go_ret;exact⟨aj HE.out.symm,vQ _ _⟩
end
section
open Go.RowKit Go.Shelf
attribute [local go_sem] Oper.semAt_some
theorem Np.KR:∀ (l:List Np.Span) (p:List Np.Span×Int),(l.foldl Np.gM p).1.length<=p.1.length+l.length
 | [],p=>by simp
 | s::l,p=>by
   rw[List.foldl_cons]
   have:=Np.KR l (Np.gM p s)
   have h2:(Np.gM p s).1.length<=p.1.length+1:=by unfold Np.gM;dsimp only;split <;> simp
   simp only[List.length_cons];omega
end
section
open Go.RowKit Go.Shelf
attribute [local go_sem] Oper.semAt_some
def Np.uE(x:Np.Span)(o:List Np.Span)(y:Np.Span):List Np.Span:=if max x.frm y.frm<min x.til y.til then o ++ [⟨max x.frm y.frm,min x.til y.til⟩] else o
theorem Np.PX(x:Np.Span)(b o:List Np.Span):Np.kF x b o=b.foldl (Np.uE x) o:=rfl
theorem Np.Ho(x:Np.Span):∀ (b o:List Np.Span),(b.foldl (Np.uE x) o).length<=o.length+b.length
 | [],o=>by simp
 | y::b,o=>by
   rw[List.foldl_cons]
   have:=Np.Ho x b (Np.uE x o y)
   have h2:(Np.uE x o y).length<=o.length+1:=by unfold Np.uE;split <;> simp
   simp only[List.length_cons];omega
theorem Np.Hq(b:List Np.Span):∀ (a o:List Np.Span),(a.foldl (λo x=>Np.kF x b o) o).length<=o.length+a.length * b.length
 | [],o=>by simp
 | x::a,o=>by
   rw[List.foldl_cons];have h1:=Np.Hq b a (Np.kF x b o);have h2:=Np.Ho x b o;rw[<-Np.PX] at h2;simp only[List.length_cons,Nat.succ_mul];omega
end
section
open Go.RowKit Go.Shelf
attribute [local go_sem] Oper.semAt_some
theorem Np.sm:∀ l:List Np.Span,(Np.aH l).length=2 * l.length
 | []=>rfl
 | s::l=>by
   have:=Np.sm l
   show (s.frm::s.til::Np.aH l).length=_;simp only[List.length_cons];omega
theorem Np.QX(l:List Np.Span)(s:Np.Span):Np.aH (l ++ [s])=Np.aH l ++ [s.frm,s.til]:=by unfold Np.aH;rw[List.flatMap_append];rfl
theorem Iq(v:Value)(l:List Np.Span)(dG:l.length<=20000)(w:World)(h:SlR cm 2 w w.heap.size v l) :
 Calls prog 240 #[v] w (λe w'=>∃ v',e = .returned v'/\dC w.heap.size w' v' (Np.aH l)/\Below w.heap.size w w'):=by
 have HD:=jq h;obtain⟨A,c,rfl,aT,cu⟩:=ar h;clear h;go_enter func240,ntmps240;go_wp2_with fail;go_loopw [3,8] (λvo i wr=>∃ (k:Nat),k<=l.length/\i = .int .i64 k/\Hid (Below w.heap.size w wr)/\Hid (dC w.heap.size wr vo (Np.aH (l.take k)))) (λ_ i _=>l.length - (intOf i).toNat)
 case atStart=>exact⟨0,jQ _,rfl,jq (vQ _ _),jq (dC.nil _ _)⟩
 case round=>
  obtain⟨k,hk,rfl,HB,HO⟩:=hrel;have ag:=HB.out.size;by_cases aa:k<l.length
  ·obtain⟨x,ac⟩:∃ x,l[k]?=some x:=⟨_,aQ aa⟩;have jv:=HD.out.keep cI HB.out;obtain⟨b,o,rfl⟩:=xE jv aa;obtain⟨bC,hat⟩:=tE jv ac;clear jv;have h0:=hat.c0;have h1:=hat.c1;have HT:Hid (Np.aH (l.take (k+1))=Np.aH (l.take k) ++ [x.frm,x.til]):=jq (by
    obtain⟨hl,he⟩:=cQ.1 ac;rw[fQ hl,he,Np.QX])
   have HL:Hid ((Np.aH (l.take k)).length<=100000):=jq (by rw[Np.sm,List.length_take];omega);have cg:b<wr.heap.size:=by omega
   obtain⟨xf,xu⟩:=x;dsimp only at h0 h1 HT;clear ac hat;go_wp2_with (at_builtin;refine Yz _ rfl _ _ rfl w.heap.size _ (Np.aH (l.take k)) rfl ((HO.out.alloc _).alloc _) (wr.heap.size+1) xf xu (by simp[go_sem]) (by simp[go_sem]) (by simp[go_sem]) HL.out (by simp;omega) ?_;intro v5 w5 il aA;have H5:=jq (And.intro il ((((vQ w.heap.size wr).alloc ag _).alloc (by simp;omega) _).trans aA));clear il aA);go_roundw
   case rel=>exact⟨k+1,by omega,by go_num,jq (HB.out.trans H5.out.2),jq (by rw[HT.out];exact H5.out.1)⟩
   case measure=>simp[intOf] <;> omega
  ·have HE':Hid (l.take k=l):=jq (kQ (by omega));go_wp2_with fail;go_ret;exact⟨_,rfl,by have:=HO.out;rwa [HE'.out] at this,HB.out⟩
end
section
open Go.RowKit Go.Shelf
attribute [local go_sem] Oper.semAt_some
def Np.par(n:Nat):Bool:=decide (n % 2=1)
theorem Np.rr(n:Nat):Np.par (n+1)=!Np.par n:=by
 unfold Np.par;rcases Nat.mod_two_eq_zero_or_one n with h | h <;> simp[Nat.add_mod,h]
theorem k9(i:Nat):(((i:Int) % 2 == 1))=Np.par i:=by
 unfold Np.par;rcases Nat.mod_two_eq_zero_or_one i with h | h
 ·have:(i:Int) % 2=0:=by omega
  rw[this,h];rfl
 ·have:(i:Int) % 2=1:=by omega
  rw[this,h];rfl
theorem mP(i:Nat):((((i:Int)+1).tmod 2 == 1))=!Np.par i:=by
 rw[<-Np.rr,<-k9,Int.tmod_eq_emod_of_nonneg (by omega)];norm_cast
theorem mR(i:Nat):((((i:Int)+1) % 2 == 1))=!Np.par i:=by
 rw[<-Np.rr,<-k9];norm_cast
theorem Np.sj{l:List Int}{i:Nat}{x:Int}(h:l[i]?=some x):l.drop i=x::l.drop (i+1):=by
 obtain⟨h1,h2⟩:=cQ.1 h;rw[sQ h1,h2]
theorem Np.KK{fx fy:List Int}{i j:Nat}{x:Int}{p q:Bool}(hi:fx[i]?=some x)(hj:∀ y,fy[j]?=some y->x<y):Np.mrg (fx.drop i) (fy.drop j) p q=(x,!p,q)::Np.mrg (fx.drop (i+1)) (fy.drop j) (!p) q:=by
 rw[Np.sj hi]
 cases hy:fy[j]? with
 | none=>rw[List.drop_eq_nil_of_le (List.getElem?_eq_none_iff.1 hy),Np.mrg]
 | some y=>rw[Np.sj hy,Np.mrg,Qb (hj y hy)]
theorem Np.KL{fx fy:List Int}{i j:Nat}{y:Int}{p q:Bool}(hj:fy[j]?=some y)(hi:∀ x,fx[i]?=some x->y<x):Np.mrg (fx.drop i) (fy.drop j) p q=(y,p,!q)::Np.mrg (fx.drop i) (fy.drop (j+1)) p (!q):=by
 rw[Np.sj hj]
 cases hx:fx[i]? with
 | none=>rw[List.drop_eq_nil_of_le (List.getElem?_eq_none_iff.1 hx),Np.mrg]
 | some x=>rw[Np.sj hx,Np.mrg,Qc (by have:=hi x hx;omega),Qb (hi x hx)]
theorem Np.Vk{fx fy:List Int}{i j:Nat}{y:Int}{p q:Bool}(hi:fx[i]?=some y)(hj:fy[j]?=some y):Np.mrg (fx.drop i) (fy.drop j) p q=(y,!p,!q)::Np.mrg (fx.drop (i+1)) (fy.drop (j+1)) (!p) (!q):=by
 rw[Np.sj hi,Np.sj hj,Np.mrg,Qc (by omega),Qc (by omega)]
theorem Np.Vl{fx fy:List Int}{p q:Bool} : Np.mrg (fx.drop fx.length) (fy.drop fy.length) p q = []:=by rw[List.drop_length,List.drop_length,Np.mrg]
theorem QM:∀ args w,(callFunc 239 args).run prog w = .ok (.enter 239 args) w:=enters_of func239 (by kernel_rfl) rfl
theorem QJ(v v2:Value)(A A2:Option Addr)(n c n2 c2:Nat)(hv:v = .slice A n c)(EA:v2 = .slice A2 n2 c2)(w:World) :
 Calls prog 165 #[v,v2] w λe w'=>e = .returned (.func (.func 239) #[] #[.pointer (some ⟨w.heap.size,0,none⟩),.pointer (some ⟨w.heap.size+1,0,none⟩)])/\w'=(w.alloc (.cells #[v] 55)).alloc (.cells #[v2] 55):=by
 subst hv EA;go_enter func165,ntmps165;go_wp2_with fail;go_ret;exact⟨rfl,rfl⟩
def MB(fx fy:List Int)(all:List (Int×Bool×Bool))(B:Nat)(vx vy:Value)(J:List (Int×Bool×Bool)->(Nat->Prop)->World->Prop)(S:Nat->Prop)(i j:Nat)(wr:World):Prop:=
 ∃ (pre:List (Int×Bool×Bool)) (S1:Nat->Prop),pre++Np.mrg (fx.drop i) (fy.drop j) (Np.par i) (Np.par j)=all/\J pre S1 wr/\(∀ k,S1 k->k<wr.heap.size)/\(∀ k,S1 k->S k\/B<=k)/\(∀ g,vx.ownBlock=some g->¬ S1 g)/\(∀ g,vy.ownBlock=some g->¬ S1 g)/\dC B wr vx fx/\dC B wr vy fy/\B<=wr.heap.size
theorem Np.Dg{l:List Np.Span}(h:Np.SpV l):∀ x∈Np.aH l,0<=x/\x<=20000000:=λx hx=>by
 obtain⟨s,hs,hx⟩:=List.mem_flatMap.1 hx;have h1:=h.lo s hs;have h2:=h.hi s hs;have h3:=h.ap.full s hs;rcases List.mem_cons.1 hx with rfl | hx
 ·omega
 ·rw[List.mem_singleton] at hx;omega
theorem QK(a b:List Np.Span)(ha:a.length<=20000)(hb:b.length<=20000)(rb:Np.SpV a)(fl:Np.SpV b)(X Y n c n2 c2:Nat)(Dr:Nat->Prop)(A A2:Option Addr)(w:World)(hX:Dr X)(DQ:Dr Y)(kX:w.cell? ⟨X,0,none⟩=some (.slice A n c))(kY:w.cell? ⟨Y,0,none⟩=some (.slice A2 n2 c2))
 (hp:∀ W,dR Dr w W->SlR cm 2 W W.heap.size (.slice A n c) a) (hq:∀ W,dR Dr w W->SlR cm 2 W W.heap.size (.slice A2 n2 c2) b) :
 yN prog 239 (λy=>#[y,.pointer (some ⟨X,0,none⟩),.pointer (some ⟨Y,0,none⟩)]) (λe:Int×Bool×Bool=>#[.int .i64 e.1,.agg #[.bool e.2.1,.bool e.2.2]]) (Np.mrg (Np.aH a) (Np.aH b) false false) Dr w:=by
 intro l J Jx S W hW hJ zy hY hS hS' h0;have k1:=(hW.cell (p:=⟨X,0,none⟩) hX).trans kX;have k2:=(hW.cell (p:=⟨Y,0,none⟩) DQ).trans kY;have HW:=jq hW;have HP:=jq hp;have HQ:=jq hq;have HV:=jq (And.intro rb fl);have lw:=jq (And.intro ha hb);have uj:=jq (And.intro kX kY);have mh:=jq (And.intro hX DQ);clear hW hp hq rb fl kX kY ha hb hX DQ;refine callsIn_of_wp func239 rfl trivial ?_ rfl;simp only[ntmps239,List.size_toArray,List.length_cons,List.length_nil,Nat.reduceAdd,Nat.reduceSub,Array.replicate_succ,Array.replicate_zero,List.push_toArray,List.append_toArray,List.nil_append,List.cons_append];gi_upto_region 0 with fail
 gi_cut [4,5] from 9 (λvx vy wx=>Below W.heap.size W wx/\dC W.heap.size wx vx (Np.aH a)/\dC W.heap.size wx vy (Np.aH b))
 case first=>
  gi_region_with (refine⟨trivial,rfl,?_⟩;gi_at_call 240;first | (refine (callsIn_wide.2 (Iq _ b lw.out.2 _ (HQ.out _ Gb.out))).mono ?_;rintro e w2 ⟨v2,rfl,dK,ab⟩;have bV:=jq (And.intro (dK.weak aD.out.size) (yy.out.keep ab));have ai:=jq (aD.out.trans (ab.mono aD.out.size));clear dK ab) | (refine (callsIn_wide.2 (Iq _ a lw.out.1 _ (HP.out W.drew HW.out))).mono ?_;rintro e w1 ⟨v1,rfl,px,aq⟩;have aD:=jq (show Below W.heap.size W w1 from ⟨aq.os,aq.tape,aq.output,aq.size,aq.block⟩);have yy:=jq (show dC W.heap.size w1 v1 (Np.aH a) from px);have Gb:=jq (HW.out.of_below aD.out);have k2':=(Gb.out.cell (p:=⟨Y,0,none⟩) mh.out.2).trans uj.out.2;clear px aq))
  all_goals
   gi_wp2_with fail;gi_meet;exact⟨ai.out,bV.out.2,bV.out.1⟩
 case rest=>
  obtain⟨aq,iS,ip⟩:=hcut;have IT:J [] S wc:=hJ _ _ _ _ h0 (ItStep.of_below aq);have Ok:=jq IT;have aD:=jq aq;have ur:=jq iS;have Cr:=jq ip;obtain⟨Ax,cx,rfl⟩:=iS.form;obtain⟨Ay,cy,rfl⟩:=ip.form;obtain⟨nx,vR⟩:=abY ((Np.aH a).length);obtain⟨ny,mC⟩:=abY ((Np.aH b).length);rw[vR] at ur |-;rw[mC] at Cr |-;have gu:=jq (And.intro vR mC);clear IT aq iS ip vR mC k1 k2 h0;gi_wp2_with fail;gi_loopw [6,7] (λvi vj wr=>∃ i j:Nat,vi = .int .i64 i/\vj = .int .i64 j/\i<=nx/\j<=ny/\Hid (MB (Np.aH a) (Np.aH b) (Np.mrg (Np.aH a) (Np.aH b) false false) W.heap.size (.slice Ax nx cx) (.slice Ay ny cy) J S i j wr)) (λvi vj _=>(nx - (intOf vi).toNat)+(ny - (intOf vj).toNat))
  case atStart=>
   refine⟨0,0,rfl,rfl,jQ _,jQ _,jq ⟨[],S,rfl,Ok.out,λk e=>lQ (hS' k e) aD.out.size,λ_ e=>.inl e,λg hg e=>?_,λg hg e=>?_,ur.out,Cr.out,aD.out.size⟩⟩
   ·have:=(ur.out.lt g hg).1;have:=hS' _ e;omega
   ·have:=(Cr.out.lt g hg).1;have:=hS' _ e;omega
  case round=>
   obtain⟨i,j,rfl,rfl,hi,hj,HR⟩:=hrel;obtain⟨pre,S1,ba,jb,cP,aF,eF,eR,iS,ip,ag⟩:=HR.out;have kg:nx<=40000/\ny<=40000:=by have:=gu.out;have:=lw.out;rw[Np.sm,Np.sm] at *;omega
   obtain⟨aaX,aaY⟩:=kg;clear HR;by_cases hin:i<nx
   ·obtain⟨x,hx⟩:∃ x,(Np.aH a)[i]?=some x:=⟨_,aQ (by have:=gu.out.1;omega)⟩;have lU:=Np.Dg HV.out.1 x (gQ hx);obtain⟨gx,o4,ZP,ZQ,cx0⟩:=iS.at hx;by_cases Ai:j<ny
    ·obtain⟨y,og⟩:∃ y,(Np.aH b)[j]?=some y:=⟨_,aQ (by have:=gu.out.2;omega)⟩;have TR:=Np.Dg HV.out.2 y (gQ og);obtain⟨gy,Dv,SE,SF,cy0⟩:=ip.at og;subst o4 Dv;rcases Int.lt_trichotomy x y with ep | ep | ep
     ·have hm:Np.mrg ((Np.aH a).drop i) ((Np.aH b).drop j) (Np.par i) (Np.par j)=(x,!Np.par i,Np.par j)::Np.mrg ((Np.aH a).drop (i+1)) ((Np.aH b).drop (j)) (Np.par (i+1)) (Np.par (j)):=by
       simp only[Np.rr];exact Np.KK hx (λy' h=>by rw[og] at h;cases h;exact ep)
      have aJ:pre ++ [(x,!Np.par i,Np.par j)] <+: Np.mrg (Np.aH a) (Np.aH b) false false:=⟨_,by rw[<-ba,hm,List.append_assoc];rfl⟩;obtain⟨fn,tmps,assign,body,hy,kI⟩:=hY pre (x,!Np.par i,Np.par j) S1 wr aJ jb cP ag;dsimp only at hy;have kx:=jq aJ;have HM:=jq hm;have HG:=jq (And.intro ba (And.intro aF (And.intro eF (And.intro eR (And.intro iS (And.intro ip ag))))));clear ba iS ip jb hm aJ eF eR cP aF;gi_wp2_with fail
      try rw[k9 i]
      try rw[k9 j]
      try rw[mP i]
      try rw[mP j]
      try rw[mR i]
      try rw[mR j]
      try rw[show min 20000000 (min x y)=x by omega]
      simp only[hy];refine⟨λh=>(by simp[Fence.wide] at h),kI.mono ?_⟩;rintro e W3 ⟨S3,an,bS,cG,(⟨rfl,eM⟩ | ⟨rfl,eN⟩)⟩
      ·have ed:=jq (And.intro an (And.intro bS (And.intro cG eM)));clear an bS cG eM;gi_wp2_with fail;go_roundw
       case rel=>
        refine⟨i+1,j,by go_num,by go_num,by omega,by omega,jq ?_⟩;obtain⟨g1,g2,g3,g4,g5,g6,g7⟩:=HG.out;obtain⟨r1,r2,r3,r4⟩:=ed.out;refine⟨_,S3,?_,r4,r3,λk e=>(r2 k e).elim (g2 k) (λh=>.inr (yQ g7 h)),λg hg e=>(r2 g e).elim (g3 g hg) (λh=>by have:=(g5.lt g hg).2;omega),λg hg e=>(r2 g e).elim (g4 g hg) (λh=>by have:=(g6.lt g hg).2;omega),bY g5 (λg hg=>r1.keep g (g5.lt g hg).2 (g3 g hg)),bY g6 (λg hg=>r1.keep g (g6.lt g hg).2 (g4 g hg)),yQ g7 r1.size⟩;rw[<-g1,HM.out,List.append_assoc];rfl
       case measure=>simp[intOf] <;> omega
      ·have ed:=jq (And.intro bS eN);clear an bS cG eN;gi_wp2_with fail;refine bodyPost_ret (results_none rfl _ _ _) rfl ?_;refine⟨⟨_,rfl⟩,.inr ⟨_,S3,kx.out,ed.out.2,λk e=>?_⟩⟩;obtain⟨g1,g2,g3,g4,g5,g6,g7⟩:=HG.out;exact (ed.out.1 k e).elim (g2 k) (λh=>.inr (yQ g7 h))
     ·have hm:Np.mrg ((Np.aH a).drop i) ((Np.aH b).drop j) (Np.par i) (Np.par j)=(y,!Np.par i,!Np.par j)::Np.mrg ((Np.aH a).drop (i+1)) ((Np.aH b).drop (j+1)) (Np.par (i+1)) (Np.par (j+1)):=by
       simp only[Np.rr];exact Np.Vk (by rw[hx,ep]) og
      have aJ:pre ++ [(y,!Np.par i,!Np.par j)] <+: Np.mrg (Np.aH a) (Np.aH b) false false:=⟨_,by rw[<-ba,hm,List.append_assoc];rfl⟩;obtain⟨fn,tmps,assign,body,hy,kI⟩:=hY pre (y,!Np.par i,!Np.par j) S1 wr aJ jb cP ag;dsimp only at hy;have kx:=jq aJ;have HM:=jq hm;have HG:=jq (And.intro ba (And.intro aF (And.intro eF (And.intro eR (And.intro iS (And.intro ip ag))))));clear ba iS ip jb hm aJ eF eR cP aF;gi_wp2_with fail
      try rw[k9 i]
      try rw[k9 j]
      try rw[mP i]
      try rw[mP j]
      try rw[mR i]
      try rw[mR j]
      try rw[show min 20000000 (min x y)=y by omega]
      try rw[show min 20000000 y=y by omega]
      simp only[hy];refine⟨λh=>(by simp[Fence.wide] at h),kI.mono ?_⟩;rintro e W3 ⟨S3,an,bS,cG,(⟨rfl,eM⟩ | ⟨rfl,eN⟩)⟩
      ·have ed:=jq (And.intro an (And.intro bS (And.intro cG eM)));clear an bS cG eM;gi_wp2_with fail;go_roundw
       case rel=>
        refine⟨i+1,j+1,by go_num,by go_num,by omega,by omega,jq ?_⟩;obtain⟨g1,g2,g3,g4,g5,g6,g7⟩:=HG.out;obtain⟨r1,r2,r3,r4⟩:=ed.out;refine⟨_,S3,?_,r4,r3,λk e=>(r2 k e).elim (g2 k) (λh=>.inr (yQ g7 h)),λg hg e=>(r2 g e).elim (g3 g hg) (λh=>by have:=(g5.lt g hg).2;omega),λg hg e=>(r2 g e).elim (g4 g hg) (λh=>by have:=(g6.lt g hg).2;omega),bY g5 (λg hg=>r1.keep g (g5.lt g hg).2 (g3 g hg)),bY g6 (λg hg=>r1.keep g (g6.lt g hg).2 (g4 g hg)),yQ g7 r1.size⟩;rw[<-g1,HM.out,List.append_assoc];rfl
       case measure=>simp[intOf] <;> omega
      ·have ed:=jq (And.intro bS eN);clear an bS cG eN;gi_wp2_with fail;refine bodyPost_ret (results_none rfl _ _ _) rfl ?_;refine⟨⟨_,rfl⟩,.inr ⟨_,S3,kx.out,ed.out.2,λk e=>?_⟩⟩;obtain⟨g1,g2,g3,g4,g5,g6,g7⟩:=HG.out;exact (ed.out.1 k e).elim (g2 k) (λh=>.inr (yQ g7 h))
     ·have hm:Np.mrg ((Np.aH a).drop i) ((Np.aH b).drop j) (Np.par i) (Np.par j)=(y,Np.par i,!Np.par j)::Np.mrg ((Np.aH a).drop (i)) ((Np.aH b).drop (j+1)) (Np.par (i)) (Np.par (j+1)):=by
       simp only[Np.rr];exact Np.KL og (λx' h=>by rw[hx] at h;cases h;exact ep)
      have aJ:pre ++ [(y,Np.par i,!Np.par j)] <+: Np.mrg (Np.aH a) (Np.aH b) false false:=⟨_,by rw[<-ba,hm,List.append_assoc];rfl⟩;obtain⟨fn,tmps,assign,body,hy,kI⟩:=hY pre (y,Np.par i,!Np.par j) S1 wr aJ jb cP ag;dsimp only at hy;have kx:=jq aJ;have HM:=jq hm;have HG:=jq (And.intro ba (And.intro aF (And.intro eF (And.intro eR (And.intro iS (And.intro ip ag))))));clear ba iS ip jb hm aJ eF eR cP aF;gi_wp2_with fail
      try rw[k9 i]
      try rw[k9 j]
      try rw[mP i]
      try rw[mP j]
      try rw[mR i]
      try rw[mR j]
      try rw[show min 20000000 (min x y)=y by omega]
      simp only[hy];refine⟨λh=>(by simp[Fence.wide] at h),kI.mono ?_⟩;rintro e W3 ⟨S3,an,bS,cG,(⟨rfl,eM⟩ | ⟨rfl,eN⟩)⟩
      ·have ed:=jq (And.intro an (And.intro bS (And.intro cG eM)));clear an bS cG eM;gi_wp2_with fail;go_roundw
       case rel=>
        refine⟨i,j+1,by go_num,by go_num,by omega,by omega,jq ?_⟩;obtain⟨g1,g2,g3,g4,g5,g6,g7⟩:=HG.out;obtain⟨r1,r2,r3,r4⟩:=ed.out;refine⟨_,S3,?_,r4,r3,λk e=>(r2 k e).elim (g2 k) (λh=>.inr (yQ g7 h)),λg hg e=>(r2 g e).elim (g3 g hg) (λh=>by have:=(g5.lt g hg).2;omega),λg hg e=>(r2 g e).elim (g4 g hg) (λh=>by have:=(g6.lt g hg).2;omega),bY g5 (λg hg=>r1.keep g (g5.lt g hg).2 (g3 g hg)),bY g6 (λg hg=>r1.keep g (g6.lt g hg).2 (g4 g hg)),yQ g7 r1.size⟩;rw[<-g1,HM.out,List.append_assoc];rfl
       case measure=>simp[intOf] <;> omega
      ·have ed:=jq (And.intro bS eN);clear an bS cG eN;gi_wp2_with fail;refine bodyPost_ret (results_none rfl _ _ _) rfl ?_;refine⟨⟨_,rfl⟩,.inr ⟨_,S3,kx.out,ed.out.2,λk e=>?_⟩⟩;obtain⟨g1,g2,g3,g4,g5,g6,g7⟩:=HG.out;exact (ed.out.1 k e).elim (g2 k) (λh=>.inr (yQ g7 h))
    ·subst o4;obtain rfl:j=ny:=by omega
     have hm:Np.mrg ((Np.aH a).drop i) ((Np.aH b).drop j) (Np.par i) (Np.par j)=(x,!Np.par i,Np.par j)::Np.mrg ((Np.aH a).drop (i+1)) ((Np.aH b).drop (j)) (Np.par (i+1)) (Np.par (j)):=by
      simp only[Np.rr];exact Np.KK hx (λy' h=>by have:=(cQ.1 h).1;have:=gu.out.2;omega)
     have aJ:pre ++ [(x,!Np.par i,Np.par j)] <+: Np.mrg (Np.aH a) (Np.aH b) false false:=⟨_,by rw[<-ba,hm,List.append_assoc];rfl⟩;obtain⟨fn,tmps,assign,body,hy,kI⟩:=hY pre (x,!Np.par i,Np.par j) S1 wr aJ jb cP ag;dsimp only at hy;have kx:=jq aJ;have HM:=jq hm;have HG:=jq (And.intro ba (And.intro aF (And.intro eF (And.intro eR (And.intro iS (And.intro ip ag))))));clear ba iS ip jb hm aJ eF eR cP aF;gi_wp2_with fail
     try rw[k9 i]
     try rw[k9 j]
     try rw[mP i]
     try rw[mP j]
     try rw[mR i]
     try rw[mR j]
     try rw[show min 20000000 x=x by omega]
     simp only[hy];refine⟨λh=>(by simp[Fence.wide] at h),kI.mono ?_⟩;rintro e W3 ⟨S3,an,bS,cG,(⟨rfl,eM⟩ | ⟨rfl,eN⟩)⟩
     ·have ed:=jq (And.intro an (And.intro bS (And.intro cG eM)));clear an bS cG eM;gi_wp2_with fail;go_roundw
      case rel=>
       refine⟨i+1,j,by go_num,by go_num,by omega,by omega,jq ?_⟩;obtain⟨g1,g2,g3,g4,g5,g6,g7⟩:=HG.out;obtain⟨r1,r2,r3,r4⟩:=ed.out;refine⟨_,S3,?_,r4,r3,λk e=>(r2 k e).elim (g2 k) (λh=>.inr (yQ g7 h)),λg hg e=>(r2 g e).elim (g3 g hg) (λh=>by have:=(g5.lt g hg).2;omega),λg hg e=>(r2 g e).elim (g4 g hg) (λh=>by have:=(g6.lt g hg).2;omega),bY g5 (λg hg=>r1.keep g (g5.lt g hg).2 (g3 g hg)),bY g6 (λg hg=>r1.keep g (g6.lt g hg).2 (g4 g hg)),yQ g7 r1.size⟩;rw[<-g1,HM.out,List.append_assoc];rfl
      case measure=>simp[intOf] <;> omega
     ·have ed:=jq (And.intro bS eN);clear an bS cG eN;gi_wp2_with fail;refine bodyPost_ret (results_none rfl _ _ _) rfl ?_;refine⟨⟨_,rfl⟩,.inr ⟨_,S3,kx.out,ed.out.2,λk e=>?_⟩⟩;obtain⟨g1,g2,g3,g4,g5,g6,g7⟩:=HG.out;exact (ed.out.1 k e).elim (g2 k) (λh=>.inr (yQ g7 h))
   ·by_cases Ai:j<ny
    ·obtain⟨y,og⟩:∃ y,(Np.aH b)[j]?=some y:=⟨_,aQ (by have:=gu.out.2;omega)⟩;have TR:=Np.Dg HV.out.2 y (gQ og);obtain⟨gy,Dv,SE,SF,cy0⟩:=ip.at og;subst Dv;obtain rfl:i=nx:=by omega
     have hm:Np.mrg ((Np.aH a).drop i) ((Np.aH b).drop j) (Np.par i) (Np.par j)=(y,Np.par i,!Np.par j)::Np.mrg ((Np.aH a).drop (i)) ((Np.aH b).drop (j+1)) (Np.par (i)) (Np.par (j+1)):=by
      simp only[Np.rr];exact Np.KL og (λx' h=>by have:=(cQ.1 h).1;have:=gu.out.1;omega)
     have aJ:pre ++ [(y,Np.par i,!Np.par j)] <+: Np.mrg (Np.aH a) (Np.aH b) false false:=⟨_,by rw[<-ba,hm,List.append_assoc];rfl⟩;obtain⟨fn,tmps,assign,body,hy,kI⟩:=hY pre (y,Np.par i,!Np.par j) S1 wr aJ jb cP ag;dsimp only at hy;have kx:=jq aJ;have HM:=jq hm;have HG:=jq (And.intro ba (And.intro aF (And.intro eF (And.intro eR (And.intro iS (And.intro ip ag))))));clear ba iS ip jb hm aJ eF eR cP aF;gi_wp2_with fail
     try rw[k9 i]
     try rw[k9 j]
     try rw[mP i]
     try rw[mP j]
     try rw[mR i]
     try rw[mR j]
     try rw[show min 20000000 y=y by omega]
     simp only[hy];refine⟨λh=>(by simp[Fence.wide] at h),kI.mono ?_⟩;rintro e W3 ⟨S3,an,bS,cG,(⟨rfl,eM⟩ | ⟨rfl,eN⟩)⟩
     ·have ed:=jq (And.intro an (And.intro bS (And.intro cG eM)));clear an bS cG eM;gi_wp2_with fail;go_roundw
      case rel=>
       refine⟨i,j+1,by go_num,by go_num,by omega,by omega,jq ?_⟩;obtain⟨g1,g2,g3,g4,g5,g6,g7⟩:=HG.out;obtain⟨r1,r2,r3,r4⟩:=ed.out;refine⟨_,S3,?_,r4,r3,λk e=>(r2 k e).elim (g2 k) (λh=>.inr (yQ g7 h)),λg hg e=>(r2 g e).elim (g3 g hg) (λh=>by have:=(g5.lt g hg).2;omega),λg hg e=>(r2 g e).elim (g4 g hg) (λh=>by have:=(g6.lt g hg).2;omega),bY g5 (λg hg=>r1.keep g (g5.lt g hg).2 (g3 g hg)),bY g6 (λg hg=>r1.keep g (g6.lt g hg).2 (g4 g hg)),yQ g7 r1.size⟩;rw[<-g1,HM.out,List.append_assoc];rfl
      case measure=>simp[intOf] <;> omega
     ·have ed:=jq (And.intro bS eN);clear an bS cG eN;gi_wp2_with fail;refine bodyPost_ret (results_none rfl _ _ _) rfl ?_;refine⟨⟨_,rfl⟩,.inr ⟨_,S3,kx.out,ed.out.2,λk e=>?_⟩⟩;obtain⟨g1,g2,g3,g4,g5,g6,g7⟩:=HG.out;exact (ed.out.1 k e).elim (g2 k) (λh=>.inr (yQ g7 h))
    ·obtain rfl:i=nx:=by omega
     obtain rfl:j=ny:=by omega
     have HG:=jq (And.intro ba (And.intro jb aF));clear ba iS ip jb eF eR cP aF;gi_wp2_with fail;go_end0;refine⟨⟨_,rfl⟩,.inl ⟨S1,?_,λk e=>(HG.out.2.2 k e)⟩⟩;have h1:=HG.out.1;rw[<-gu.out.1,<-gu.out.2,Np.Vl,List.append_nil] at h1;rw[<-h1];exact HG.out.2.1
end
section
open Go.RowKit
theorem XC{α:Type}{xs ys:List α}{k:Nat}(h1:k<xs.length)(h2:k<ys.length)(h:xs.take k=ys.take k)(he:xs[k]=ys[k]):xs.take (k+1)=ys.take (k+1):=by
 rw[fQ h1,fQ h2,h,he]
theorem Vo{α:Type}[DecidableEq α]{xs ys:List α}{k:Nat}(h1:k<xs.length)(h2:k<ys.length)(he:¬ xs[k]=ys[k]):false=decide (xs=ys):=by
 symm;rw[decide_eq_false_iff_not];rintro rfl;exact he rfl
theorem W5(u v:Value)(xs ys:List Int)(w:World)(hu:SlR eK 1 w w.heap.size u xs)(hv:SlR eK 1 w w.heap.size v ys) :
 Calls prog 41 #[u,v] w (agQ w.heap.size w (.bool (decide (xs=ys)))):=by
 have HU:=jq hu;have HV:=jq hv;obtain⟨A,c,rfl,aT,cu,ej⟩:=hu;obtain⟨A2,c2,rfl,dZ,fZ,fg⟩:=hv;clear ej fg;by_cases hlen:xs.length=ys.length
 ·have Ao:((xs.length:Int) != (ys.length:Int))=false:=by simp;omega
  have HL:=jq hlen;clear hlen;go_enter func41,ntmps41;go_wp2_with fail;go_loopw [5] (λi wr=>∃ k:Nat,k<=xs.length/\i = .int .i64 k/\Below w.heap.size w wr/\Hid (xs.take k=ys.take k)) (λi _=>xs.length - (intOf i).toNat)
  case atStart=>exact⟨0,jQ _,rfl,vQ _ _,jq rfl⟩
  case round=>
   obtain⟨k,hk,rfl,hb,HA⟩:=hrel;by_cases aa:k<xs.length
   ·have vO:k<ys.length:=by have:=HL.out;omega
    obtain⟨A',c',hA',_,_,aL⟩:=HU.out.keep g9 hb
    cases hA'
    obtain⟨b,o,e,rfl,bC,hlen,hce,rfl⟩:=aL k _ (aQ aa);obtain⟨A',c',hA',_,_,Jo⟩:=HV.out.keep g9 hb
    cases hA'
    obtain⟨b2,o2,e2,rfl,R4,Z1,Jf,rfl⟩:=Jo k _ (aQ vO);have h0:wr.cell? ⟨b,o+k,none⟩=some (.int .i64 xs[k]):=by have:=hce 0 _ rfl;simpa using this
    have g0:wr.cell? ⟨b2,o2+k,none⟩=some (.int .i64 ys[k]):=by have:=Jf 0 _ rfl;simpa using this
    have HB:=jq hb;clear aL Jo hce Jf hb;go_wp2_with fail;go_quiet (fail);by_cases hx:xs[k]=ys[k]
    ·have hx':(xs[k] != ys[k])=false:=by simp[hx]
     have HX:=jq hx;clear hx;go_wp2_with fail;go_roundw
     case rel=>exact⟨k+1,by omega,by go_num,below_drewN HB.out _,jq (XC aa vO HA.out HX.out)⟩
     case measure=>simp[intOf] <;> omega
    ·have hx':(xs[k] != ys[k])=true:=by simp[hx]
     have HX:=jq hx;clear hx;go_wp2_with fail;go_ret;exact⟨aj (Vo aa vO HX.out),below_drewN HB.out _⟩
   ·go_wp2_with fail;go_ret;refine⟨aj ?_,hb⟩;have h:=HA.out;rw[kQ (by omega),kQ (by have:=HL.out;omega)] at h;simp[h]
 ·have Ao:((xs.length:Int) != (ys.length:Int))=true:=by simp;omega
  go_enter func41,ntmps41;go_wp2_with fail;go_ret;exact⟨aj (by simp;intro e;exact hlen (by rw[e])),vQ _ _⟩
theorem xC{α:Type}{R:agJ α}{sz:Nat}{W:World}{g:Nat}{n:Nat}{xs:List α}(enc:α->List Value)(hlen:∀ x∈xs,(enc x).length=sz)(hn:xs.length=n)
 (hc:∀ j u,(xs.flatMap enc)[j]?=some u->W.cell? ⟨g,j,none⟩=some u) (hg:g<W.heap.size) (hl:xs.length<=140737488355328) (hR:∀ x∈xs,R W W.heap.size (enc x) x):SlR R sz W W.heap.size (.slice (some ⟨g,0,none⟩) n n) xs:=by
 have Em:∀ (l:List α) (i:Nat) (x:α) (j:Nat) (u:Value),(∀ y∈l,(enc y).length=sz)->l[i]?=some x->(enc x)[j]?=some u->(l.flatMap enc)[i * sz+j]?=some u:=by
  intro l
  induction l with
  | nil=>intro i x j u _ hi;simp at hi
  | cons y l ih=>
   intro i x j u fJ hi hj;rw[List.flatMap_cons];have hy:(enc y).length=sz:=fJ y (by simp)
   cases i with
   | zero=>
    simp at hi;subst hi;rw[List.getElem?_append_left (by have:=(cQ.1 hj).1;omega)];simpa using hj
   | succ i=>
    rw[oQ (by rw[hy,Nat.succ_mul];omega),hy]
    have:=ih i x j u (λy hy=>fJ y (by simp[hy])) (by simpa using hi) hj
    rw[show (i+1) * sz+j - sz=i * sz+j by rw[Nat.succ_mul];omega];exact this
 subst hn;refine⟨_,_,rfl,bQ _,hl,λi x hx=>⟨g,0,enc x,rfl,hg,hlen x (gQ hx),λj u hj=>?_,hR x (gQ hx)⟩⟩;have h1:=hc _ _ (Em xs i x j u hlen hx hj);rw[show 0+i * sz+j=i * sz+j by omega];exact h1
def jB:Np.Datum:=⟨[],1,0⟩
def ic:Np.Sig:=⟨[120],1,1,10,90,0⟩
def sk:Np.DSet:=⟨[120],1,0,[jB]⟩
theorem Sm(w:World)(hR:dS w w.heap.size) :
 Calls prog 36 #[] w (agQ w.heap.size w (.bool true)):=by
 have HR:=jq hR;clear hR;go_enter func36,ntmps36;go_wp2_with fail;have b0:(((w.alloc (.cells #[.string ⟨#[]⟩,.int .i64 1,.int .i64 0] 128)).alloc (.cells #[.string ⟨#[120]⟩,.int .i64 1,.int .i64 1,.int .i64 10,.int .i64 90,.int .u64 0] 50)).alloc (.cells #[.string ⟨#[120]⟩,.int .i64 1,.int .i64 0,.slice (some ⟨w.heap.size,0,none⟩) 1 1,.slice (some ⟨w.heap.size+1,0,none⟩) 1 1] 42)).cell? ⟨w.heap.size+1+1,0,none⟩=some (.string ⟨#[120]⟩):=by go_simp
 have b1:(((w.alloc (.cells #[.string ⟨#[]⟩,.int .i64 1,.int .i64 0] 128)).alloc (.cells #[.string ⟨#[120]⟩,.int .i64 1,.int .i64 1,.int .i64 10,.int .i64 90,.int .u64 0] 50)).alloc (.cells #[.string ⟨#[120]⟩,.int .i64 1,.int .i64 0,.slice (some ⟨w.heap.size,0,none⟩) 1 1,.slice (some ⟨w.heap.size+1,0,none⟩) 1 1] 42)).cell? ⟨w.heap.size+1+1,1,none⟩=some (.int .i64 1):=by go_simp
 have b2:(((w.alloc (.cells #[.string ⟨#[]⟩,.int .i64 1,.int .i64 0] 128)).alloc (.cells #[.string ⟨#[120]⟩,.int .i64 1,.int .i64 1,.int .i64 10,.int .i64 90,.int .u64 0] 50)).alloc (.cells #[.string ⟨#[120]⟩,.int .i64 1,.int .i64 0,.slice (some ⟨w.heap.size,0,none⟩) 1 1,.slice (some ⟨w.heap.size+1,0,none⟩) 1 1] 42)).cell? ⟨w.heap.size+1+1,2,none⟩=some (.int .i64 0):=by go_simp
 have b3:(((w.alloc (.cells #[.string ⟨#[]⟩,.int .i64 1,.int .i64 0] 128)).alloc (.cells #[.string ⟨#[120]⟩,.int .i64 1,.int .i64 1,.int .i64 10,.int .i64 90,.int .u64 0] 50)).alloc (.cells #[.string ⟨#[120]⟩,.int .i64 1,.int .i64 0,.slice (some ⟨w.heap.size,0,none⟩) 1 1,.slice (some ⟨w.heap.size+1,0,none⟩) 1 1] 42)).cell? ⟨w.heap.size+1+1,3,none⟩=some (.slice (some ⟨w.heap.size,0,none⟩) 1 1):=by go_simp
 have b4:(((w.alloc (.cells #[.string ⟨#[]⟩,.int .i64 1,.int .i64 0] 128)).alloc (.cells #[.string ⟨#[120]⟩,.int .i64 1,.int .i64 1,.int .i64 10,.int .i64 90,.int .u64 0] 50)).alloc (.cells #[.string ⟨#[120]⟩,.int .i64 1,.int .i64 0,.slice (some ⟨w.heap.size,0,none⟩) 1 1,.slice (some ⟨w.heap.size+1,0,none⟩) 1 1] 42)).cell? ⟨w.heap.size+1+1,4,none⟩=some (.slice (some ⟨w.heap.size+1,0,none⟩) 1 1):=by go_simp
 have ag:w.heap.size+1+1<(((w.alloc (.cells #[.string ⟨#[]⟩,.int .i64 1,.int .i64 0] 128)).alloc (.cells #[.string ⟨#[120]⟩,.int .i64 1,.int .i64 1,.int .i64 10,.int .i64 90,.int .u64 0] 50)).alloc (.cells #[.string ⟨#[120]⟩,.int .i64 1,.int .i64 0,.slice (some ⟨w.heap.size,0,none⟩) 1 1,.slice (some ⟨w.heap.size+1,0,none⟩) 1 1] 42)).heap.size:=by simp <;> omega
 have bW:Below w.heap.size w (((w.alloc (.cells #[.string ⟨#[]⟩,.int .i64 1,.int .i64 0] 128)).alloc (.cells #[.string ⟨#[120]⟩,.int .i64 1,.int .i64 1,.int .i64 10,.int .i64 90,.int .u64 0] 50)).alloc (.cells #[.string ⟨#[120]⟩,.int .i64 1,.int .i64 0,.slice (some ⟨w.heap.size,0,none⟩) 1 1,.slice (some ⟨w.heap.size+1,0,none⟩) 1 1] 42)):=(((vQ _ w).alloc (bQ _) _).alloc (by simp) _).alloc (by simp;omega) _;have hd:SlR bI 3 (((w.alloc (.cells #[.string ⟨#[]⟩,.int .i64 1,.int .i64 0] 128)).alloc (.cells #[.string ⟨#[120]⟩,.int .i64 1,.int .i64 1,.int .i64 10,.int .i64 90,.int .u64 0] 50)).alloc (.cells #[.string ⟨#[120]⟩,.int .i64 1,.int .i64 0,.slice (some ⟨w.heap.size,0,none⟩) 1 1,.slice (some ⟨w.heap.size+1,0,none⟩) 1 1] 42)) (((w.alloc (.cells #[.string ⟨#[]⟩,.int .i64 1,.int .i64 0] 128)).alloc (.cells #[.string ⟨#[120]⟩,.int .i64 1,.int .i64 1,.int .i64 10,.int .i64 90,.int .u64 0] 50)).alloc (.cells #[.string ⟨#[120]⟩,.int .i64 1,.int .i64 0,.slice (some ⟨w.heap.size,0,none⟩) 1 1,.slice (some ⟨w.heap.size+1,0,none⟩) 1 1] 42)).heap.size (.slice (some ⟨w.heap.size,0,none⟩) 1 1) [jB]:=by
  refine xC (λd=>[.string ⟨d.text.toArray⟩,.int .i64 d.n,.int .i64 d.m]) (by simp) rfl (λj u hj=>?_) (by simp;omega) (by simp) (λx hx=>?_)
  ·match j,hj with
   | 0,hj=>simp[jB] at hj;subst hj;go_simp
   | 1,hj=>simp[jB] at hj;subst hj;go_simp
   | 2,hj=>simp[jB] at hj;subst hj;go_simp
   | j+3,hj=>simp at hj
  ·simp at hx;subst hx;exact⟨⟨#[]⟩,rfl,by decide,rfl⟩
 have hg:SlR cr 6 (((w.alloc (.cells #[.string ⟨#[]⟩,.int .i64 1,.int .i64 0] 128)).alloc (.cells #[.string ⟨#[120]⟩,.int .i64 1,.int .i64 1,.int .i64 10,.int .i64 90,.int .u64 0] 50)).alloc (.cells #[.string ⟨#[120]⟩,.int .i64 1,.int .i64 0,.slice (some ⟨w.heap.size,0,none⟩) 1 1,.slice (some ⟨w.heap.size+1,0,none⟩) 1 1] 42)) (((w.alloc (.cells #[.string ⟨#[]⟩,.int .i64 1,.int .i64 0] 128)).alloc (.cells #[.string ⟨#[120]⟩,.int .i64 1,.int .i64 1,.int .i64 10,.int .i64 90,.int .u64 0] 50)).alloc (.cells #[.string ⟨#[120]⟩,.int .i64 1,.int .i64 0,.slice (some ⟨w.heap.size,0,none⟩) 1 1,.slice (some ⟨w.heap.size+1,0,none⟩) 1 1] 42)).heap.size (.slice (some ⟨w.heap.size+1,0,none⟩) 1 1) [ic]:=by
  refine xC (λd=>[.string ⟨d.zone.toArray⟩,.int .i64 d.key,.int .i64 d.alg,.int .i64 d.frm,.int .i64 d.til,.int .u64 d.sum]) (by simp) rfl (λj u hj=>?_) (by simp <;> omega) (by simp) (λx hx=>?_)
  ·match j,hj with
   | 0,hj=>simp[ic] at hj;subst hj;go_simp
   | 1,hj=>simp[ic] at hj;subst hj;go_simp
   | 2,hj=>simp[ic] at hj;subst hj;go_simp
   | 3,hj=>simp[ic] at hj;subst hj;go_simp
   | 4,hj=>simp[ic] at hj;subst hj;go_simp
   | 5,hj=>simp[ic] at hj;subst hj;go_simp
   | j+6,hj=>simp at hj
  ·simp at hx;subst hx;exact⟨⟨#[120]⟩,rfl,by decide,rfl⟩
 have uV:dS (((w.alloc (.cells #[.string ⟨#[]⟩,.int .i64 1,.int .i64 0] 128)).alloc (.cells #[.string ⟨#[120]⟩,.int .i64 1,.int .i64 1,.int .i64 10,.int .i64 90,.int .u64 0] 50)).alloc (.cells #[.string ⟨#[120]⟩,.int .i64 1,.int .i64 0,.slice (some ⟨w.heap.size,0,none⟩) 1 1,.slice (some ⟨w.heap.size+1,0,none⟩) 1 1] 42)) (((w.alloc (.cells #[.string ⟨#[]⟩,.int .i64 1,.int .i64 0] 128)).alloc (.cells #[.string ⟨#[120]⟩,.int .i64 1,.int .i64 1,.int .i64 10,.int .i64 90,.int .u64 0] 50)).alloc (.cells #[.string ⟨#[120]⟩,.int .i64 1,.int .i64 0,.slice (some ⟨w.heap.size,0,none⟩) 1 1,.slice (some ⟨w.heap.size+1,0,none⟩) 1 1] 42)).heap.size:=(HR.out.keep bW).more (by simp;omega);generalize ((w.alloc (.cells #[.string ⟨#[]⟩,.int .i64 1,.int .i64 0] 128)).alloc (.cells #[.string ⟨#[120]⟩,.int .i64 1,.int .i64 1,.int .i64 10,.int .i64 90,.int .u64 0] 50)).alloc (.cells #[.string ⟨#[120]⟩,.int .i64 1,.int .i64 0,.slice (some ⟨w.heap.size,0,none⟩) 1 1,.slice (some ⟨w.heap.size+1,0,none⟩) 1 1] 42)=W0 at b0 b1 b2 b3 b4 ag bW hd hg uV |-;have HD:=jq hd;have HG:=jq hg;have ql:=jq uV;have bp:=jq bW;have s1:Np.fR ⟨sk,[ic]⟩ 5 1000=0:=by decide +kernel
 have s2:Np.ew ⟨sk,[ic]⟩ 5 1000 = [⟨15,86⟩]:=by decide +kernel
 have s3:Np.fR ⟨sk,[ic]⟩ 41 1000=0:=by decide +kernel
 have s4:Np.ew ⟨sk,[ic]⟩ 41 1000 = []:=by decide +kernel
 have s5:Np.fR ⟨sk,[]⟩ 5 70=0:=by decide +kernel
 have s6:Np.ew ⟨sk,[]⟩ 5 70 = [⟨0,70⟩]:=by decide +kernel
 have t1:Np.fm 5 200 100 5 20=0:=by decide +kernel
 have t2:Np.times 5 200 100 5 20 = [5,72,139]:=by decide +kernel
 have t3:Np.fm 5 200 36 5 20=0:=by decide +kernel
 have t4:Np.fm 5 200 33 5 20=32:=by decide +kernel
 have t5:Np.fm 4 200 100 5 20=1:=by decide +kernel
 have S1:=jq s1;have S2:=jq s2;have S3:=jq s3;have S4:=jq s4;have S5:=jq s5;have S6:=jq s6;have T1:=jq t1;have T2:=jq t2;have T3:=jq t3;have T4:=jq t4;have T5:=jq t5;clear hd hg uV bW s1 s2 s3 s4 s5 s6 t1 t2 t3 t4 t5;refine (By ⟨#[120]⟩ (by decide) 1 0 _ _ [jB] [ic] 5 1000 _ ql.out HD.out HG.out).mono ?_;rintro e w1 ⟨x1,rfl,cS,aq⟩;rw[show Np.fR ⟨⟨[120],1,0,[jB]⟩,[ic]⟩ 5 1000=0 from S1.out];have aK:=aq.size;have w1c0:w1.cell? ⟨w.heap.size+1+1,0,none⟩=some (.string ⟨#[120]⟩):=(aq.cell (p:=⟨w.heap.size+1+1,0,none⟩) (by show w.heap.size+1+1<_;omega)).trans b0;have w1c1:w1.cell? ⟨w.heap.size+1+1,1,none⟩=some (.int .i64 1):=(aq.cell (p:=⟨w.heap.size+1+1,1,none⟩) (by show w.heap.size+1+1<_;omega)).trans b1;have w1c2:w1.cell? ⟨w.heap.size+1+1,2,none⟩=some (.int .i64 0):=(aq.cell (p:=⟨w.heap.size+1+1,2,none⟩) (by show w.heap.size+1+1<_;omega)).trans b2;have w1c3:w1.cell? ⟨w.heap.size+1+1,3,none⟩=some (.slice (some ⟨w.heap.size,0,none⟩) 1 1):=(aq.cell (p:=⟨w.heap.size+1+1,3,none⟩) (by show w.heap.size+1+1<_;omega)).trans b3;have w1c4:w1.cell? ⟨w.heap.size+1+1,4,none⟩=some (.slice (some ⟨w.heap.size+1,0,none⟩) 1 1):=(aq.cell (p:=⟨w.heap.size+1+1,4,none⟩) (by show w.heap.size+1+1<_;omega)).trans b4;have Ph:=jq cS;have aD:=jq aq;clear cS aq;go_wp2_with fail;refine (By ⟨#[120]⟩ (by decide) 1 0 _ _ [jB] [ic] 41 1000 _ ((ql.out.keep aD.out).more (by omega)) ((HD.out.keep bq aD.out).more bD (by omega)) ((HG.out.keep cC aD.out).more cZ (by omega))).mono ?_;rintro e w2 ⟨x2,rfl,EF,ab⟩;rw[show Np.fR ⟨⟨[120],1,0,[jB]⟩,[ic]⟩ 41 1000=0 from S3.out];have aC:=ab.size;have w2c0:w2.cell? ⟨w.heap.size+1+1,0,none⟩=some (.string ⟨#[120]⟩):=(ab.cell (p:=⟨w.heap.size+1+1,0,none⟩) (by show w.heap.size+1+1<_;omega)).trans w1c0;have w2c1:w2.cell? ⟨w.heap.size+1+1,1,none⟩=some (.int .i64 1):=(ab.cell (p:=⟨w.heap.size+1+1,1,none⟩) (by show w.heap.size+1+1<_;omega)).trans w1c1;have w2c2:w2.cell? ⟨w.heap.size+1+1,2,none⟩=some (.int .i64 0):=(ab.cell (p:=⟨w.heap.size+1+1,2,none⟩) (by show w.heap.size+1+1<_;omega)).trans w1c2;have w2c3:w2.cell? ⟨w.heap.size+1+1,3,none⟩=some (.slice (some ⟨w.heap.size,0,none⟩) 1 1):=(ab.cell (p:=⟨w.heap.size+1+1,3,none⟩) (by show w.heap.size+1+1<_;omega)).trans w1c3;have w2c4:w2.cell? ⟨w.heap.size+1+1,4,none⟩=some (.slice (some ⟨w.heap.size+1,0,none⟩) 1 1):=(ab.cell (p:=⟨w.heap.size+1+1,4,none⟩) (by show w.heap.size+1+1<_;omega)).trans w1c4;have IJ:Below W0.heap.size W0 w2:=aD.out.trans (ab.acJ);have qu:=jq EF;have ai:=jq IJ;have de:=jq ab;clear EF ab IJ;go_wp2_with fail;refine (By ⟨#[120]⟩ (by decide) 1 0 _ _ [jB] [] 5 70 _ ((ql.out.keep ai.out).more (by omega)) ((HD.out.keep bq ai.out).more bD (by omega)) (LK _ _)).mono ?_;rintro e w3 ⟨x3,rfl,EG,ae⟩;rw[show Np.fR ⟨⟨[120],1,0,[jB]⟩,[]⟩ 5 70=0 from S5.out];have gh:=ae.size;have yI:=jq EG;have mf:=jq ae;clear EG ae;go_wp2_with fail;refine (xI _ _ _ _ _ _).mono ?_;rintro e w4 ⟨x4,rfl,Ki,ah⟩;rw[T1.out];have rY:=jq Ki;have yf:=jq ah;have gX:=ah.size;clear Ki ah;go_wp2_with fail;refine (xI _ _ _ _ _ _).mono ?_;rintro e w5 ⟨x5,rfl,TP,aA⟩;rw[T3.out];have iB:=jq aA;have jo:=aA.size;clear TP aA;go_wp2_with fail;refine (xI _ _ _ _ _ _).mono ?_;rintro e w6 ⟨x6,rfl,th,aI⟩;rw[T4.out];have oz:=jq aI;have kj:=aI.size;clear th aI;go_wp2_with fail;refine (xI _ _ _ _ _ _).mono ?_;rintro e w7 ⟨x7,rfl,tj,cF⟩;rw[T5.out];have tY:=jq cF;have tk:=cF.size;clear tj cF;go_wp2_with fail;have n1:Below w1.heap.size w1 w7:=(((((de.out.trans (mf.out.acJ)).trans (yf.out.acJ)).trans (iB.out.acJ)).trans (oz.out.acJ)).trans (tY.out.acJ));have n3:Below w3.heap.size w3 w7:=(((yf.out.trans (iB.out.acJ)).trans (oz.out.acJ)).trans (tY.out.acJ));have n4:Below w4.heap.size w4 w7:=((iB.out.trans (oz.out.acJ)).trans (tY.out.acJ));have IP:Below w.heap.size w w7:=bp.out.trans ((aD.out.trans (n1.acJ)).acJ);have N1:=jq n1;have N3:=jq n3;have N4:=jq n4;have Pf:=jq IP;obtain⟨A2,c2,rfl,_,_,_⟩:SlR cm 2 w2 w2.heap.size x2 []:=by have:=qu.out;rwa [show Np.ew ⟨⟨[120],1,0,[jB]⟩,[ic]⟩ 41 1000 = [] from S4.out] at this
 clear n1 n3 n4 IP;have m1:=SlR.more iw (SlR.keep cI (SlR.keep cI Ph.out N1.out) (((vQ w7.heap.size w7).alloc (bQ _) (.cells #[.int .i64 15,.int .i64 86] 110)).acJ)) (by simp;omega:w1.heap.size<=(w7.alloc (.cells #[.int .i64 15,.int .i64 86] 110)).heap.size);refine (Lw _ _ _ [⟨15,86⟩] _ m1 ?_).mono ?_
 ·refine xC (λd=>[.int .i64 d.frm,.int .i64 d.til]) (by simp) rfl (λj u hj=>?_) (by simp) (by simp) (λx hx=>?_)
  ·match j,hj with
   | 0,hj=>simp at hj;subst hj;go_simp
   | 1,hj=>simp at hj;subst hj;go_simp
   | j+2,hj=>simp at hj
  ·rfl
 clear m1;rintro e w8 ⟨rfl,dW⟩;rw[show decide (Np.ew ⟨⟨[120],1,0,[jB]⟩,[ic]⟩ 5 1000 = [⟨15,86⟩])=true from uQ S2.out];have rg:w7.heap.size+1<=w8.heap.size:=by have:=dW.size;simpa using this
 have IK:Below w7.heap.size w7 w8:=((vQ _ w7).alloc (bQ _) _).trans (dW.mono (by simp));have eX:=jq IK;clear dW IK;go_wp2_with fail;have m3:=SlR.more iw (SlR.keep cI (SlR.keep cI (SlR.keep cI yI.out N3.out) (eX.out.acJ)) (((vQ w8.heap.size w8).alloc (bQ _) (.cells #[.int .i64 0,.int .i64 70] 110)).acJ)) (by simp;omega:w3.heap.size<=(w8.alloc (.cells #[.int .i64 0,.int .i64 70] 110)).heap.size);refine (Lw _ _ _ [⟨0,70⟩] _ m3 ?_).mono ?_
 ·refine xC (λd=>[.int .i64 d.frm,.int .i64 d.til]) (by simp) rfl (λj u hj=>?_) (by simp) (by simp) (λx hx=>?_)
  ·match j,hj with
   | 0,hj=>simp at hj;subst hj;go_simp
   | 1,hj=>simp at hj;subst hj;go_simp
   | j+2,hj=>simp at hj
  ·rfl
 clear m3;rintro e w9 ⟨rfl,bi⟩;rw[show decide (Np.ew ⟨⟨[120],1,0,[jB]⟩,[]⟩ 5 70 = [⟨0,70⟩])=true from uQ S6.out];have wV:w8.heap.size+1<=w9.heap.size:=by have:=bi.size;simpa using this
 have IL:Below w7.heap.size w7 w9:=eX.out.trans ((((vQ _ w8).alloc (bQ _) _).trans (bi.mono (by simp))).acJ);have eb:=jq IL;clear bi IL;go_wp2_with fail;have m4:=SlR.more l4 (SlR.keep g9 (SlR.keep g9 (SlR.keep g9 rY.out N4.out) (eb.out.acJ)) (((vQ w9.heap.size w9).alloc (bQ _) (.cells #[.int .i64 5,.int .i64 72,.int .i64 139] 3)).acJ)) (by simp;omega:w4.heap.size<=(w9.alloc (.cells #[.int .i64 5,.int .i64 72,.int .i64 139] 3)).heap.size);refine (W5 _ _ _ [5,72,139] _ m4 ?_).mono ?_
 ·refine xC (λd=>[.int .i64 d]) (by simp) rfl (λj u hj=>?_) (by simp) (by simp) (λx hx=>?_)
  ·match j,hj with
   | 0,hj=>simp at hj;subst hj;go_simp
   | 1,hj=>simp at hj;subst hj;go_simp
   | 2,hj=>simp at hj;subst hj;go_simp
   | j+3,hj=>simp at hj
  ·rfl
 clear m4;rintro e w10 ⟨rfl,vf⟩;rw[show decide (Np.times 5 200 100 5 20 = [5,72,139])=true from uQ T2.out];have BO:=jq vf;clear vf;go_wp2_with fail;go_ret;refine⟨rfl,Pf.out.trans ((eb.out.trans (((vQ _ w9).alloc (bQ _) _).trans (BO.out.mono (by simp)) |>.acJ)).acJ)⟩
end
end Go.Proofs.YtfnopgdcaanaiaaGreatDoor
