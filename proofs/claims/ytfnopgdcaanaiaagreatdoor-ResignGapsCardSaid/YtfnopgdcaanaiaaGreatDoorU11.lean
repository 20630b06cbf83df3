/- Parts of the proof. No condition. -/
import Derived.Sort.CutIn
import Derived.Test.YtfnopgdcaanaiaaGreatDoorU07
import Derived.Test.YtfnopgdcaanaiaaGreatDoorU09
set_option linter.all false
set_option maxRecDepth 100000
set_option maxHeartbeats 8000000
namespace Go.Proofs.YtfnopgdcaanaiaaGreatDoor
open Go.Proofs.Tryz
section
open Go.RowKit Go.Sort Go.Shelf
def Np.OV(l:List Np.Span):Prop:=∀ s∈l,s.frm<s.til
theorem WM(f u f' u':Int)(w:World):(binOp .neq 110 (.agg #[.int .i64 f,.int .i64 u]) (.agg #[.int .i64 f',.int .i64 u'])).run prog w = .ok (.bool (decide ((⟨f,u⟩:Np.Span)≠⟨f',u'⟩))) w:=by
 have u3:=underlying3;have a3:=isAgg3;have z3:=sizeOf3;have hS:prog.underlying 110=some (.struct (prog.fieldsOf 110)):=by kernel_rfl
 have hp:prog.stoodInHeld 110=false:=by kernel_rfl
 rw[run_neq_struct,show (10000:Nat)=9999+1 from rfl,run_equalIn_agg w 9999 110 _ _ hS hp];simp only[Program.fieldsOf,underlying110];go_simp;by_cases h1:f=f' <;> by_cases h2:u=u' <;> simp[h1,h2]
theorem vU(v v':Value)(l m:List Np.Span)(w:World)(h:SlR cB 2 w w.heap.size v l)(h':SlR cB 2 w w.heap.size v' m) :
 Calls prog 21 #[v,v'] w (λe w'=>e = .returned (.bool (decide (l=m)))/\Below w.heap.size w w'):=by
 have HL:=jq h;have HM:=jq h';obtain⟨A,c,rfl,aW,bh⟩:=aj h;obtain⟨A',c',rfl,TA,Co⟩:=aj h';clear h h';by_cases hlen:l.length=m.length
 ·have uv:=jq hlen;obtain⟨n,hn⟩:=abK m.length;rw[hn] at TA Co hlen;have HN:=jq hn;rw[hlen] at aW bh;rw[hn,hlen];have sH:=jq hlen;clear hlen hn;go_enter func21,ntmps21;go_wp2_with fail;go_loopw [5] (λi wr=>∃ (k:Nat),k<=n/\i = .int .i64 k/\Hid (Below w.heap.size w wr)/\Hid (l.take k=m.take k)) (λi _=>n - (intOf i).toNat)
  case atStart=>exact⟨0,jQ _,rfl,jq (vQ _ _),jq rfl⟩
  case round=>
   obtain⟨k,hk,rfl,HB,HT⟩:=hrel;have al:=HB.out.size;by_cases aa:k<n
   ·have ro:=sH.out;have LE:=HN.out;obtain⟨x,hx⟩:∃ x,l[k]?=some x:=⟨_,aQ (by omega)⟩;obtain⟨y,hy⟩:∃ y,m[k]?=some y:=⟨_,aQ (by omega)⟩;have gI:=HL.out.keep bR HB.out;have AS:=HM.out.keep bR HB.out;rw[ro] at gI;rw[LE] at AS;obtain⟨b,o,rfl⟩:=Aj (k:=k) gI (by omega);obtain⟨b',o',rfl⟩:=Aj (k:=k) AS (by omega);obtain⟨bq,hat⟩:=vW gI hx;obtain⟨tk,uU⟩:=vW AS hy;have h0:=hat.c0;have h1:=hat.c1;have h0':=uU.c0;have h1':=uU.c1;have lO:Hid (x=y->l.take (k+1)=m.take (k+1)):=jq (λe=>by
     obtain⟨q1,q2⟩:=cQ.1 hx;obtain⟨q3,q4⟩:=cQ.1 hy;rw[fQ q1,fQ q3,q2,q4,HT.out,e])
    have ie:Hid (x≠y->decide (l=m)=false):=jq (λe=>tQ (by rintro rfl;rw[hx] at hy;exact e (by simpa using hy)));have bL:(0:Int)<=(k:Int):=by omega
    have bY:(k:Int)<(n:Int):=by omega
    have heq:=WM x.frm x.til y.frm y.til;clear gI AS hat uU hx hy ro LE;by_cases bF:x=y
    ·have HX:=jq (lO.out bF);have jw:decide ((⟨x.frm,x.til⟩:Np.Span)≠⟨y.frm,y.til⟩)=false:=by rw[bF];simp
     rw[jw] at heq;clear jw bF;go_wp2_with fail;go_quiet (fail);go_wp2_with fail;go_roundw
     case rel=>exact⟨k+1,by omega,by go_num,jq (below_drewN HB.out _),HX⟩
     case measure=>simp[intOf] <;> omega
    ·have HX:=jq (ie.out bF);have jw:decide ((⟨x.frm,x.til⟩:Np.Span)≠⟨y.frm,y.til⟩)=true:=uQ bF;rw[jw] at heq;clear jw bF;go_wp2_with fail;go_quiet (fail);go_wp2_with fail;go_ret;exact⟨ae HX.out.symm,below_drewN HB.out _⟩
   ·have HE:Hid (decide (l=m)=true):=jq (uQ (by
     have:=HT.out
     rwa [kQ (by have:=sH.out;omega),kQ (by have:=HN.out;omega)] at this))
    go_wp2_with fail;go_ret;exact⟨ae HE.out.symm,HB.out⟩
 ·have hne:(l.length:Int)≠(m.length:Int):=by omega
  have hd:decide ((l.length:Int)=(m.length:Int))=false:=tQ hne;have HE:Hid (decide (l=m)=false):=jq (tQ (by rintro rfl;exact hlen rfl));have hb:((l.length:Int) == (m.length:Int))=false:=by simpa using hne
  go_enter func21,ntmps21;go_wp2_with fail;go_ret;exact⟨ae HE.out.symm,vQ _ _⟩
end
section
open Go.RowKit Go.Shelf
attribute [local go_sem] Oper.semAt_some
theorem Np.MS:∀ (l:List Np.Span) (p:List Np.Span×Int),(l.foldl Np.iA p).1.length<=p.1.length+l.length
 | [],p=>by simp
 | s::l,p=>by
   rw[List.foldl_cons]
   have:=Np.MS l (Np.iA p s)
   have h2:(Np.iA p s).1.length<=p.1.length+1:=by unfold Np.iA;dsimp only;split <;> simp
   simp only[List.length_cons];omega
end
section
open Go.RowKit Go.Shelf
attribute [local go_sem] Oper.semAt_some
def Np.xP(x:Np.Span)(o:List Np.Span)(y:Np.Span):List Np.Span:=if max x.frm y.frm<min x.til y.til then o ++ [⟨max x.frm y.frm,min x.til y.til⟩] else o
theorem Np.Rm(x:Np.Span)(b o:List Np.Span):Np.mL x b o=b.foldl (Np.xP x) o:=rfl
theorem Np.JT(x:Np.Span):∀ (b o:List Np.Span),(b.foldl (Np.xP x) o).length<=o.length+b.length
 | [],o=>by simp
 | y::b,o=>by
   rw[List.foldl_cons]
   have:=Np.JT x b (Np.xP x o y)
   have h2:(Np.xP x o y).length<=o.length+1:=by unfold Np.xP;split <;> simp
   simp only[List.length_cons];omega
theorem Np.JV(b:List Np.Span):∀ (a o:List Np.Span),(a.foldl (λo x=>Np.mL x b o) o).length<=o.length+a.length * b.length
 | [],o=>by simp
 | x::a,o=>by
   rw[List.foldl_cons];have h1:=Np.JV b a (Np.mL x b o);have h2:=Np.JT x b o;rw[<-Np.Rm] at h2;simp only[List.length_cons,Nat.succ_mul];omega
end
section
open Go.RowKit Go.Shelf
attribute [local go_sem] Oper.semAt_some
theorem Np.uM:∀ l:List Np.Span,(Np.aP l).length=2 * l.length
 | []=>rfl
 | s::l=>by
   have:=Np.uM l
   show (s.frm::s.til::Np.aP l).length=_;simp only[List.length_cons];omega
theorem Np.Sp(l:List Np.Span)(s:Np.Span):Np.aP (l ++ [s])=Np.aP l ++ [s.frm,s.til]:=by unfold Np.aP;rw[List.flatMap_append];rfl
theorem Kr(v:Value)(l:List Np.Span)(bn:l.length<=20000)(w:World)(h:SlR cB 2 w w.heap.size v l) :
 Calls prog 240 #[v] w (λe w'=>∃ v',e = .returned v'/\en w.heap.size w' v' (Np.aP l)/\Below w.heap.size w w'):=by
 have HD:=jq h;obtain⟨A,c,rfl,aW,bh⟩:=aj h;clear h;go_enter func240,ntmps240;go_wp2_with fail;go_loopw [3,8] (λvo i wr=>∃ (k:Nat),k<=l.length/\i = .int .i64 k/\Hid (Below w.heap.size w wr)/\Hid (en w.heap.size wr vo (Np.aP (l.take k)))) (λ_ i _=>l.length - (intOf i).toNat)
 case atStart=>exact⟨0,jQ _,rfl,jq (vQ _ _),jq (en.nil _ _)⟩
 case round=>
  obtain⟨k,hk,rfl,HB,HO⟩:=hrel;have al:=HB.out.size;by_cases aa:k<l.length
  ·obtain⟨x,ac⟩:∃ x,l[k]?=some x:=⟨_,aQ aa⟩;have gI:=HD.out.keep bR HB.out;obtain⟨b,o,rfl⟩:=Aj gI aa;obtain⟨bq,hat⟩:=vW gI ac;clear gI;have h0:=hat.c0;have h1:=hat.c1;have HT:Hid (Np.aP (l.take (k+1))=Np.aP (l.take k) ++ [x.frm,x.til]):=jq (by
    obtain⟨hl,he⟩:=cQ.1 ac;rw[fQ hl,he,Np.Sp])
   have HL:Hid ((Np.aP (l.take k)).length<=100000):=jq (by rw[Np.uM,List.length_take];omega);have bO:b<wr.heap.size:=by omega
   obtain⟨xf,xu⟩:=x;dsimp only at h0 h1 HT;clear ac hat;go_wp2_with (at_builtin;refine ZV _ rfl _ _ rfl w.heap.size _ (Np.aP (l.take k)) rfl ((HO.out.alloc _).alloc _) (wr.heap.size+1) xf xu (by simp[go_sem]) (by simp[go_sem]) (by simp[go_sem]) HL.out (by simp;omega) ?_;intro v5 w5 fd aF;have H5:=jq (And.intro fd ((((vQ w.heap.size wr).alloc al _).alloc (by simp;omega) _).trans aF));clear fd aF);go_roundw
   case rel=>exact⟨k+1,by omega,by go_num,jq (HB.out.trans H5.out.2),jq (by rw[HT.out];exact H5.out.1)⟩
   case measure=>simp[intOf] <;> omega
  ·have HE':Hid (l.take k=l):=jq (kQ (by omega));go_wp2_with fail;go_ret;exact⟨_,rfl,by have:=HO.out;rwa [HE'.out] at this,HB.out⟩
end
section
open Go.RowKit Go.Shelf
attribute [local go_sem] Oper.semAt_some
def Np.par(n:Nat):Bool:=decide (n % 2=1)
theorem Np.tW(n:Nat):Np.par (n+1)=!Np.par n:=by
 unfold Np.par;rcases Nat.mod_two_eq_zero_or_one n with h | h <;> simp[Nat.add_mod,h]
theorem nc(i:Nat):(((i:Int) % 2 == 1))=Np.par i:=by
 unfold Np.par;rcases Nat.mod_two_eq_zero_or_one i with h | h
 ·have:(i:Int) % 2=0:=by omega
  rw[this,h];rfl
 ·have:(i:Int) % 2=1:=by omega
  rw[this,h];rfl
theorem oV(i:Nat):((((i:Int)+1).tmod 2 == 1))=!Np.par i:=by
 rw[<-Np.tW,<-nc,Int.tmod_eq_emod_of_nonneg (by omega)];norm_cast
theorem oW(i:Nat):((((i:Int)+1) % 2 == 1))=!Np.par i:=by
 rw[<-Np.tW,<-nc];norm_cast
theorem Np.uK{l:List Int}{i:Nat}{x:Int}(h:l[i]?=some x):l.drop i=x::l.drop (i+1):=by
 obtain⟨h1,h2⟩:=cQ.1 h;rw[sQ h1,h2]
theorem Np.ML{fx fy:List Int}{i j:Nat}{x:Int}{p q:Bool}(hi:fx[i]?=some x)(hj:∀ y,fy[j]?=some y->x<y):Np.mrg (fx.drop i) (fy.drop j) p q=(x,!p,q)::Np.mrg (fx.drop (i+1)) (fy.drop j) (!p) q:=by
 rw[Np.uK hi]
 cases hy:fy[j]? with
 | none=>rw[List.drop_eq_nil_of_le (List.getElem?_eq_none_iff.1 hy),Np.mrg]
 | some y=>rw[Np.uK hy,Np.mrg,Qb (hj y hy)]
theorem Np.MM{fx fy:List Int}{i j:Nat}{y:Int}{p q:Bool}(hj:fy[j]?=some y)(hi:∀ x,fx[i]?=some x->y<x):Np.mrg (fx.drop i) (fy.drop j) p q=(y,p,!q)::Np.mrg (fx.drop i) (fy.drop (j+1)) p (!q):=by
 rw[Np.uK hj]
 cases hx:fx[i]? with
 | none=>rw[List.drop_eq_nil_of_le (List.getElem?_eq_none_iff.1 hx),Np.mrg]
 | some x=>rw[Np.uK hx,Np.mrg,Qc (by have:=hi x hx;omega),Qb (hi x hx)]
theorem Np.WE{fx fy:List Int}{i j:Nat}{y:Int}{p q:Bool}(hi:fx[i]?=some y)(hj:fy[j]?=some y):Np.mrg (fx.drop i) (fy.drop j) p q=(y,!p,!q)::Np.mrg (fx.drop (i+1)) (fy.drop (j+1)) (!p) (!q):=by
 rw[Np.uK hi,Np.uK hj,Np.mrg,Qc (by omega),Qc (by omega)]
theorem Np.WF{fx fy:List Int}{p q:Bool} : Np.mrg (fx.drop fx.length) (fy.drop fy.length) p q = []:=by rw[List.drop_length,List.drop_length,Np.mrg]
theorem Sb:∀ args w,(callFunc 239 args).run prog w = .ok (.enter 239 args) w:=enters_of func239 (by kernel_rfl) rfl
theorem R8(v v2:Value)(A A2:Option Addr)(n c n2 c2:Nat)(hv:v = .slice A n c)(qp:v2 = .slice A2 n2 c2)(w:World) :
 Calls prog 165 #[v,v2] w λe w'=>e = .returned (.func (.func 239) #[] #[.pointer (some ⟨w.heap.size,0,none⟩),.pointer (some ⟨w.heap.size+1,0,none⟩)])/\w'=(w.alloc (.cells #[v] 55)).alloc (.cells #[v2] 55):=by
 subst hv qp;go_enter func165,ntmps165;go_wp2_with fail;go_ret;exact⟨rfl,rfl⟩
def OT(fx fy:List Int)(all:List (Int×Bool×Bool))(B:Nat)(vx vy:Value)(J:List (Int×Bool×Bool)->(Nat->Prop)->World->Prop)(S:Nat->Prop)(i j:Nat)(wr:World):Prop:=
 ∃ (pre:List (Int×Bool×Bool)) (S1:Nat->Prop),pre++Np.mrg (fx.drop i) (fy.drop j) (Np.par i) (Np.par j)=all/\J pre S1 wr/\(∀ k,S1 k->k<wr.heap.size)/\(∀ k,S1 k->S k\/B<=k)/\(∀ g,vx.ownBlock=some g->¬ S1 g)/\(∀ g,vy.ownBlock=some g->¬ S1 g)/\en B wr vx fx/\en B wr vy fy/\B<=wr.heap.size
theorem Np.Fa{l:List Np.Span}(h:Np.SpV l):∀ x∈Np.aP l,0<=x/\x<=20000000:=λx hx=>by
 obtain⟨s,hs,hx⟩:=List.mem_flatMap.1 hx;have h1:=h.lo s hs;have h2:=h.hi s hs;have h3:=h.ap.full s hs;rcases List.mem_cons.1 hx with rfl | hx
 ·omega
 ·rw[List.mem_singleton] at hx;omega
theorem R9(a b:List Np.Span)(ha:a.length<=20000)(hb:b.length<=20000)(mi:Np.SpV a)(fV:Np.SpV b)(X Y n c n2 c2:Nat)(Dr:Nat->Prop)(A A2:Option Addr)(w:World)(hX:Dr X)(FE:Dr Y)(kX:w.cell? ⟨X,0,none⟩=some (.slice A n c))(kY:w.cell? ⟨Y,0,none⟩=some (.slice A2 n2 c2))
 (hp:∀ W,eK Dr w W->SlR cB 2 W W.heap.size (.slice A n c) a) (hq:∀ W,eK Dr w W->SlR cB 2 W W.heap.size (.slice A2 n2 c2) b) :
 Bq prog 239 (λy=>#[y,.pointer (some ⟨X,0,none⟩),.pointer (some ⟨Y,0,none⟩)]) (λe:Int×Bool×Bool=>#[.int .i64 e.1,.agg #[.bool e.2.1,.bool e.2.2]]) (Np.mrg (Np.aP a) (Np.aP b) false false) Dr w:=by
 intro l J Jx S W hW hJ BX hY hS hS' h0;have k1:=(hW.cell (p:=⟨X,0,none⟩) hX).trans kX;have k2:=(hW.cell (p:=⟨Y,0,none⟩) FE).trans kY;have HW:=jq hW;have HP:=jq hp;have HQ:=jq hq;have HV:=jq (And.intro mi fV);have ic:=jq (And.intro ha hb);have xa:=jq (And.intro kX kY);have oh:=jq (And.intro hX FE);clear hW hp hq mi fV kX kY ha hb hX FE;refine callsIn_of_wp func239 rfl trivial ?_ rfl;simp only[ntmps239,List.size_toArray,List.length_cons,List.length_nil,Nat.reduceAdd,Nat.reduceSub,Array.replicate_succ,Array.replicate_zero,List.push_toArray,List.append_toArray,List.nil_append,List.cons_append];gi_upto_region 0 with fail
 gi_cut [4,5] from 9 (λvx vy wx=>Below W.heap.size W wx/\en W.heap.size wx vx (Np.aP a)/\en W.heap.size wx vy (Np.aP b))
 case first=>
  gi_region_with (refine⟨trivial,rfl,?_⟩;gi_at_call 240;first | (refine (callsIn_wide.2 (Kr _ b ic.out.2 _ (HQ.out _ IG.out))).mono ?_;rintro e w2 ⟨v2,rfl,gh,ab⟩;have dh:=jq (And.intro (gh.weak ar.out.size) (P7.out.keep ab));have ai:=jq (ar.out.trans (ab.mono ar.out.size));clear gh ab) | (refine (callsIn_wide.2 (Kr _ a ic.out.1 _ (HP.out W.drew HW.out))).mono ?_;rintro e w1 ⟨v1,rfl,rx,an⟩;have ar:=jq (show Below W.heap.size W w1 from ⟨an.os,an.tape,an.output,an.size,an.block⟩);have P7:=jq (show en W.heap.size w1 v1 (Np.aP a) from rx);have IG:=jq (HW.out.of_below ar.out);have k2':=(IG.out.cell (p:=⟨Y,0,none⟩) oh.out.2).trans xa.out.2;clear rx an))
  all_goals
   gi_wp2_with fail;gi_meet;exact⟨ai.out,dh.out.2,dh.out.1⟩
 case rest=>
  obtain⟨an,j6,jp⟩:=hcut;have KN:J [] S wc:=hJ _ _ _ _ h0 (ItStep.of_below an);have PN:=jq KN;have ar:=jq an;have xl:=jq j6;have Ep:=jq jp;obtain⟨Ax,cx,rfl⟩:=j6.form;obtain⟨Ay,cy,rfl⟩:=jp.form;obtain⟨nx,ru⟩:=abK ((Np.aP a).length);obtain⟨ny,mc⟩:=abK ((Np.aP b).length);rw[ru] at xl |-;rw[mc] at Ep |-;have cJ:=jq (And.intro ru mc);clear KN an j6 jp ru mc k1 k2 h0;gi_wp2_with fail;gi_loopw [6,7] (λvi vj wr=>∃ i j:Nat,vi = .int .i64 i/\vj = .int .i64 j/\i<=nx/\j<=ny/\Hid (OT (Np.aP a) (Np.aP b) (Np.mrg (Np.aP a) (Np.aP b) false false) W.heap.size (.slice Ax nx cx) (.slice Ay ny cy) J S i j wr)) (λvi vj _=>(nx - (intOf vi).toNat)+(ny - (intOf vj).toNat))
  case atStart=>
   refine⟨0,0,rfl,rfl,jQ _,jQ _,jq ⟨[],S,rfl,PN.out,λk e=>lQ (hS' k e) ar.out.size,λ_ e=>.inl e,λg hg e=>?_,λg hg e=>?_,xl.out,Ep.out,ar.out.size⟩⟩
   ·have:=(xl.out.lt g hg).1;have:=hS' _ e;omega
   ·have:=(Ep.out.lt g hg).1;have:=hS' _ e;omega
  case round=>
   obtain⟨i,j,rfl,rfl,hi,hj,HR⟩:=hrel;obtain⟨pre,S1,aY,kp,bU,aM,ft,cn,j6,jp,al⟩:=HR.out;have kx:nx<=40000/\ny<=40000:=by have:=cJ.out;have:=ic.out;rw[Np.uM,Np.uM] at *;omega
   obtain⟨aoZ,aoJ⟩:=kx;clear HR;by_cases hin:i<nx
   ·obtain⟨x,hx⟩:∃ x,(Np.aP a)[i]?=some x:=⟨_,aQ (by have:=cJ.out.1;omega)⟩;have qs:=Np.Fa HV.out.1 x (gQ hx);obtain⟨gx,ra,ajQ,ajZ,cx0⟩:=j6.at hx;by_cases nS:j<ny
    ·obtain⟨y,oP⟩:∃ y,(Np.aP b)[j]?=some y:=⟨_,aQ (by have:=cJ.out.2;omega)⟩;have Vo:=Np.Fa HV.out.2 y (gQ oP);obtain⟨gy,Fl,TZ,T0,cy0⟩:=jp.at oP;subst ra Fl;rcases Int.lt_trichotomy x y with bF | bF | bF
     ·have hm:Np.mrg ((Np.aP a).drop i) ((Np.aP b).drop j) (Np.par i) (Np.par j)=(x,!Np.par i,Np.par j)::Np.mrg ((Np.aP a).drop (i+1)) ((Np.aP b).drop (j)) (Np.par (i+1)) (Np.par (j)):=by
       simp only[Np.tW];exact Np.ML hx (λy' h=>by rw[oP] at h;cases h;exact bF)
      have aU:pre ++ [(x,!Np.par i,Np.par j)] <+: Np.mrg (Np.aP a) (Np.aP b) false false:=⟨_,by rw[<-aY,hm,List.append_assoc];rfl⟩;obtain⟨fn,tmps,assign,body,hy,mP⟩:=hY pre (x,!Np.par i,Np.par j) S1 wr aU kp bU al;dsimp only at hy;have mC:=jq aU;have HM:=jq hm;have HG:=jq (And.intro aY (And.intro aM (And.intro ft (And.intro cn (And.intro j6 (And.intro jp al))))));clear aY j6 jp kp hm aU ft cn bU aM;gi_wp2_with fail
      try rw[nc i]
      try rw[nc j]
      try rw[oV i]
      try rw[oV j]
      try rw[oW i]
      try rw[oW j]
      try rw[show min 20000000 (min x y)=x by omega]
      simp only[hy];refine⟨λh=>(by simp[Fence.wide] at h),mP.mono ?_⟩;rintro e W3 ⟨S3,aA,cK,dH,(⟨rfl,fH⟩ | ⟨rfl,fI⟩)⟩
      ·have eU:=jq (And.intro aA (And.intro cK (And.intro dH fH)));clear aA cK dH fH;gi_wp2_with fail;go_roundw
       case rel=>
        refine⟨i+1,j,by go_num,by go_num,by omega,by omega,jq ?_⟩;obtain⟨g1,g2,g3,g4,g5,g6,g7⟩:=HG.out;obtain⟨r1,r2,r3,r4⟩:=eU.out;refine⟨_,S3,?_,r4,r3,λk e=>(r2 k e).elim (g2 k) (λh=>.inr (yQ g7 h)),λg hg e=>(r2 g e).elim (g3 g hg) (λh=>by have:=(g5.lt g hg).2;omega),λg hg e=>(r2 g e).elim (g4 g hg) (λh=>by have:=(g6.lt g hg).2;omega),cM g5 (λg hg=>r1.keep g (g5.lt g hg).2 (g3 g hg)),cM g6 (λg hg=>r1.keep g (g6.lt g hg).2 (g4 g hg)),yQ g7 r1.size⟩;rw[<-g1,HM.out,List.append_assoc];rfl
       case measure=>simp[intOf] <;> omega
      ·have eU:=jq (And.intro cK fI);clear aA cK dH fI;gi_wp2_with fail;refine bodyPost_ret (results_none rfl _ _ _) rfl ?_;refine⟨⟨_,rfl⟩,.inr ⟨_,S3,mC.out,eU.out.2,λk e=>?_⟩⟩;obtain⟨g1,g2,g3,g4,g5,g6,g7⟩:=HG.out;exact (eU.out.1 k e).elim (g2 k) (λh=>.inr (yQ g7 h))
     ·have hm:Np.mrg ((Np.aP a).drop i) ((Np.aP b).drop j) (Np.par i) (Np.par j)=(y,!Np.par i,!Np.par j)::Np.mrg ((Np.aP a).drop (i+1)) ((Np.aP b).drop (j+1)) (Np.par (i+1)) (Np.par (j+1)):=by
       simp only[Np.tW];exact Np.WE (by rw[hx,bF]) oP
      have aU:pre ++ [(y,!Np.par i,!Np.par j)] <+: Np.mrg (Np.aP a) (Np.aP b) false false:=⟨_,by rw[<-aY,hm,List.append_assoc];rfl⟩;obtain⟨fn,tmps,assign,body,hy,mP⟩:=hY pre (y,!Np.par i,!Np.par j) S1 wr aU kp bU al;dsimp only at hy;have mC:=jq aU;have HM:=jq hm;have HG:=jq (And.intro aY (And.intro aM (And.intro ft (And.intro cn (And.intro j6 (And.intro jp al))))));clear aY j6 jp kp hm aU ft cn bU aM;gi_wp2_with fail
      try rw[nc i]
      try rw[nc j]
      try rw[oV i]
      try rw[oV j]
      try rw[oW i]
      try rw[oW j]
      try rw[show min 20000000 (min x y)=y by omega]
      try rw[show min 20000000 y=y by omega]
      simp only[hy];refine⟨λh=>(by simp[Fence.wide] at h),mP.mono ?_⟩;rintro e W3 ⟨S3,aA,cK,dH,(⟨rfl,fH⟩ | ⟨rfl,fI⟩)⟩
      ·have eU:=jq (And.intro aA (And.intro cK (And.intro dH fH)));clear aA cK dH fH;gi_wp2_with fail;go_roundw
       case rel=>
        refine⟨i+1,j+1,by go_num,by go_num,by omega,by omega,jq ?_⟩;obtain⟨g1,g2,g3,g4,g5,g6,g7⟩:=HG.out;obtain⟨r1,r2,r3,r4⟩:=eU.out;refine⟨_,S3,?_,r4,r3,λk e=>(r2 k e).elim (g2 k) (λh=>.inr (yQ g7 h)),λg hg e=>(r2 g e).elim (g3 g hg) (λh=>by have:=(g5.lt g hg).2;omega),λg hg e=>(r2 g e).elim (g4 g hg) (λh=>by have:=(g6.lt g hg).2;omega),cM g5 (λg hg=>r1.keep g (g5.lt g hg).2 (g3 g hg)),cM g6 (λg hg=>r1.keep g (g6.lt g hg).2 (g4 g hg)),yQ g7 r1.size⟩;rw[<-g1,HM.out,List.append_assoc];rfl
       case measure=>simp[intOf] <;> omega
      ·have eU:=jq (And.intro cK fI);clear aA cK dH fI;gi_wp2_with fail;refine bodyPost_ret (results_none rfl _ _ _) rfl ?_;refine⟨⟨_,rfl⟩,.inr ⟨_,S3,mC.out,eU.out.2,λk e=>?_⟩⟩;obtain⟨g1,g2,g3,g4,g5,g6,g7⟩:=HG.out;exact (eU.out.1 k e).elim (g2 k) (λh=>.inr (yQ g7 h))
     ·have hm:Np.mrg ((Np.aP a).drop i) ((Np.aP b).drop j) (Np.par i) (Np.par j)=(y,Np.par i,!Np.par j)::Np.mrg ((Np.aP a).drop (i)) ((Np.aP b).drop (j+1)) (Np.par (i)) (Np.par (j+1)):=by
       simp only[Np.tW];exact Np.MM oP (λx' h=>by rw[hx] at h;cases h;exact bF)
      have aU:pre ++ [(y,Np.par i,!Np.par j)] <+: Np.mrg (Np.aP a) (Np.aP b) false false:=⟨_,by rw[<-aY,hm,List.append_assoc];rfl⟩;obtain⟨fn,tmps,assign,body,hy,mP⟩:=hY pre (y,Np.par i,!Np.par j) S1 wr aU kp bU al;dsimp only at hy;have mC:=jq aU;have HM:=jq hm;have HG:=jq (And.intro aY (And.intro aM (And.intro ft (And.intro cn (And.intro j6 (And.intro jp al))))));clear aY j6 jp kp hm aU ft cn bU aM;gi_wp2_with fail
      try rw[nc i]
      try rw[nc j]
      try rw[oV i]
      try rw[oV j]
      try rw[oW i]
      try rw[oW j]
      try rw[show min 20000000 (min x y)=y by omega]
      simp only[hy];refine⟨λh=>(by simp[Fence.wide] at h),mP.mono ?_⟩;rintro e W3 ⟨S3,aA,cK,dH,(⟨rfl,fH⟩ | ⟨rfl,fI⟩)⟩
      ·have eU:=jq (And.intro aA (And.intro cK (And.intro dH fH)));clear aA cK dH fH;gi_wp2_with fail;go_roundw
       case rel=>
        refine⟨i,j+1,by go_num,by go_num,by omega,by omega,jq ?_⟩;obtain⟨g1,g2,g3,g4,g5,g6,g7⟩:=HG.out;obtain⟨r1,r2,r3,r4⟩:=eU.out;refine⟨_,S3,?_,r4,r3,λk e=>(r2 k e).elim (g2 k) (λh=>.inr (yQ g7 h)),λg hg e=>(r2 g e).elim (g3 g hg) (λh=>by have:=(g5.lt g hg).2;omega),λg hg e=>(r2 g e).elim (g4 g hg) (λh=>by have:=(g6.lt g hg).2;omega),cM g5 (λg hg=>r1.keep g (g5.lt g hg).2 (g3 g hg)),cM g6 (λg hg=>r1.keep g (g6.lt g hg).2 (g4 g hg)),yQ g7 r1.size⟩;rw[<-g1,HM.out,List.append_assoc];rfl
       case measure=>simp[intOf] <;> omega
      ·have eU:=jq (And.intro cK fI);clear aA cK dH fI;gi_wp2_with fail;refine bodyPost_ret (results_none rfl _ _ _) rfl ?_;refine⟨⟨_,rfl⟩,.inr ⟨_,S3,mC.out,eU.out.2,λk e=>?_⟩⟩;obtain⟨g1,g2,g3,g4,g5,g6,g7⟩:=HG.out;exact (eU.out.1 k e).elim (g2 k) (λh=>.inr (yQ g7 h))
    ·subst ra;obtain rfl:j=ny:=by omega
     have hm:Np.mrg ((Np.aP a).drop i) ((Np.aP b).drop j) (Np.par i) (Np.par j)=(x,!Np.par i,Np.par j)::Np.mrg ((Np.aP a).drop (i+1)) ((Np.aP b).drop (j)) (Np.par (i+1)) (Np.par (j)):=by
      simp only[Np.tW];exact Np.ML hx (λy' h=>by have:=(cQ.1 h).1;have:=cJ.out.2;omega)
     have aU:pre ++ [(x,!Np.par i,Np.par j)] <+: Np.mrg (Np.aP a) (Np.aP b) false false:=⟨_,by rw[<-aY,hm,List.append_assoc];rfl⟩;obtain⟨fn,tmps,assign,body,hy,mP⟩:=hY pre (x,!Np.par i,Np.par j) S1 wr aU kp bU al;dsimp only at hy;have mC:=jq aU;have HM:=jq hm;have HG:=jq (And.intro aY (And.intro aM (And.intro ft (And.intro cn (And.intro j6 (And.intro jp al))))));clear aY j6 jp kp hm aU ft cn bU aM;gi_wp2_with fail
     try rw[nc i]
     try rw[nc j]
     try rw[oV i]
     try rw[oV j]
     try rw[oW i]
     try rw[oW j]
     try rw[show min 20000000 x=x by omega]
     simp only[hy];refine⟨λh=>(by simp[Fence.wide] at h),mP.mono ?_⟩;rintro e W3 ⟨S3,aA,cK,dH,(⟨rfl,fH⟩ | ⟨rfl,fI⟩)⟩
     ·have eU:=jq (And.intro aA (And.intro cK (And.intro dH fH)));clear aA cK dH fH;gi_wp2_with fail;go_roundw
      case rel=>
       refine⟨i+1,j,by go_num,by go_num,by omega,by omega,jq ?_⟩;obtain⟨g1,g2,g3,g4,g5,g6,g7⟩:=HG.out;obtain⟨r1,r2,r3,r4⟩:=eU.out;refine⟨_,S3,?_,r4,r3,λk e=>(r2 k e).elim (g2 k) (λh=>.inr (yQ g7 h)),λg hg e=>(r2 g e).elim (g3 g hg) (λh=>by have:=(g5.lt g hg).2;omega),λg hg e=>(r2 g e).elim (g4 g hg) (λh=>by have:=(g6.lt g hg).2;omega),cM g5 (λg hg=>r1.keep g (g5.lt g hg).2 (g3 g hg)),cM g6 (λg hg=>r1.keep g (g6.lt g hg).2 (g4 g hg)),yQ g7 r1.size⟩;rw[<-g1,HM.out,List.append_assoc];rfl
      case measure=>simp[intOf] <;> omega
     ·have eU:=jq (And.intro cK fI);clear aA cK dH fI;gi_wp2_with fail;refine bodyPost_ret (results_none rfl _ _ _) rfl ?_;refine⟨⟨_,rfl⟩,.inr ⟨_,S3,mC.out,eU.out.2,λk e=>?_⟩⟩;obtain⟨g1,g2,g3,g4,g5,g6,g7⟩:=HG.out;exact (eU.out.1 k e).elim (g2 k) (λh=>.inr (yQ g7 h))
   ·by_cases nS:j<ny
    ·obtain⟨y,oP⟩:∃ y,(Np.aP b)[j]?=some y:=⟨_,aQ (by have:=cJ.out.2;omega)⟩;have Vo:=Np.Fa HV.out.2 y (gQ oP);obtain⟨gy,Fl,TZ,T0,cy0⟩:=jp.at oP;subst Fl;obtain rfl:i=nx:=by omega
     have hm:Np.mrg ((Np.aP a).drop i) ((Np.aP b).drop j) (Np.par i) (Np.par j)=(y,Np.par i,!Np.par j)::Np.mrg ((Np.aP a).drop (i)) ((Np.aP b).drop (j+1)) (Np.par (i)) (Np.par (j+1)):=by
      simp only[Np.tW];exact Np.MM oP (λx' h=>by have:=(cQ.1 h).1;have:=cJ.out.1;omega)
     have aU:pre ++ [(y,Np.par i,!Np.par j)] <+: Np.mrg (Np.aP a) (Np.aP b) false false:=⟨_,by rw[<-aY,hm,List.append_assoc];rfl⟩;obtain⟨fn,tmps,assign,body,hy,mP⟩:=hY pre (y,Np.par i,!Np.par j) S1 wr aU kp bU al;dsimp only at hy;have mC:=jq aU;have HM:=jq hm;have HG:=jq (And.intro aY (And.intro aM (And.intro ft (And.intro cn (And.intro j6 (And.intro jp al))))));clear aY j6 jp kp hm aU ft cn bU aM;gi_wp2_with fail
     try rw[nc i]
     try rw[nc j]
     try rw[oV i]
     try rw[oV j]
     try rw[oW i]
     try rw[oW j]
     try rw[show min 20000000 y=y by omega]
     simp only[hy];refine⟨λh=>(by simp[Fence.wide] at h),mP.mono ?_⟩;rintro e W3 ⟨S3,aA,cK,dH,(⟨rfl,fH⟩ | ⟨rfl,fI⟩)⟩
     ·have eU:=jq (And.intro aA (And.intro cK (And.intro dH fH)));clear aA cK dH fH;gi_wp2_with fail;go_roundw
      case rel=>
       refine⟨i,j+1,by go_num,by go_num,by omega,by omega,jq ?_⟩;obtain⟨g1,g2,g3,g4,g5,g6,g7⟩:=HG.out;obtain⟨r1,r2,r3,r4⟩:=eU.out;refine⟨_,S3,?_,r4,r3,λk e=>(r2 k e).elim (g2 k) (λh=>.inr (yQ g7 h)),λg hg e=>(r2 g e).elim (g3 g hg) (λh=>by have:=(g5.lt g hg).2;omega),λg hg e=>(r2 g e).elim (g4 g hg) (λh=>by have:=(g6.lt g hg).2;omega),cM g5 (λg hg=>r1.keep g (g5.lt g hg).2 (g3 g hg)),cM g6 (λg hg=>r1.keep g (g6.lt g hg).2 (g4 g hg)),yQ g7 r1.size⟩;rw[<-g1,HM.out,List.append_assoc];rfl
      case measure=>simp[intOf] <;> omega
     ·have eU:=jq (And.intro cK fI);clear aA cK dH fI;gi_wp2_with fail;refine bodyPost_ret (results_none rfl _ _ _) rfl ?_;refine⟨⟨_,rfl⟩,.inr ⟨_,S3,mC.out,eU.out.2,λk e=>?_⟩⟩;obtain⟨g1,g2,g3,g4,g5,g6,g7⟩:=HG.out;exact (eU.out.1 k e).elim (g2 k) (λh=>.inr (yQ g7 h))
    ·obtain rfl:i=nx:=by omega
     obtain rfl:j=ny:=by omega
     have HG:=jq (And.intro aY (And.intro kp aM));clear aY j6 jp kp ft cn bU aM;gi_wp2_with fail;go_end0;refine⟨⟨_,rfl⟩,.inl ⟨S1,?_,λk e=>(HG.out.2.2 k e)⟩⟩;have h1:=HG.out.1;rw[<-cJ.out.1,<-cJ.out.2,Np.WF,List.append_nil] at h1;rw[<-h1];exact HG.out.2.1
end
section
open Go.RowKit
theorem Zh{α:Type}{xs ys:List α}{k:Nat}(h1:k<xs.length)(h2:k<ys.length)(h:xs.take k=ys.take k)(he:xs[k]=ys[k]):xs.take (k+1)=ys.take (k+1):=by
 rw[fQ h1,fQ h2,h,he]
theorem WJ{α:Type}[DecidableEq α]{xs ys:List α}{k:Nat}(h1:k<xs.length)(h2:k<ys.length)(he:¬ xs[k]=ys[k]):false=decide (xs=ys):=by
 symm;rw[decide_eq_false_iff_not];rintro rfl;exact he rfl
theorem YJ(u v:Value)(xs ys:List Int)(w:World)(hu:SlR gL 1 w w.heap.size u xs)(hv:SlR gL 1 w w.heap.size v ys) :
 Calls prog 41 #[u,v] w (aeJ w.heap.size w (.bool (decide (xs=ys)))):=by
 have HU:=jq hu;have HV:=jq hv;obtain⟨A,c,rfl,aW,bh,eO⟩:=hu;obtain⟨A2,c2,rfl,db,cY,fT⟩:=hv;clear eO fT;by_cases hlen:xs.length=ys.length
 ·have Lu:((xs.length:Int) != (ys.length:Int))=false:=by simp;omega
  have HL:=jq hlen;clear hlen;go_enter func41,ntmps41;go_wp2_with fail;go_loopw [5] (λi wr=>∃ k:Nat,k<=xs.length/\i = .int .i64 k/\Below w.heap.size w wr/\Hid (xs.take k=ys.take k)) (λi _=>xs.length - (intOf i).toNat)
  case atStart=>exact⟨0,jQ _,rfl,vQ _ _,jq rfl⟩
  case round=>
   obtain⟨k,hk,rfl,hb,HA⟩:=hrel;by_cases aa:k<xs.length
   ·have lC:k<ys.length:=by have:=HL.out;omega
    obtain⟨A',c',hA',_,_,aC⟩:=HU.out.keep kM hb
    cases hA'
    obtain⟨b,o,e,rfl,bq,hlen,hce,rfl⟩:=aC k _ (aQ aa);obtain⟨A',c',hA',_,_,gg⟩:=HV.out.keep kM hb
    cases hA'
    obtain⟨b2,o2,e2,rfl,B7,amQ,K5,rfl⟩:=gg k _ (aQ lC);have h0:wr.cell? ⟨b,o+k,none⟩=some (.int .i64 xs[k]):=by have:=hce 0 _ rfl;simpa using this
    have g0:wr.cell? ⟨b2,o2+k,none⟩=some (.int .i64 ys[k]):=by have:=K5 0 _ rfl;simpa using this
    have HB:=jq hb;clear aC gg hce K5 hb;go_wp2_with fail;go_quiet (fail);by_cases hx:xs[k]=ys[k]
    ·have hx':(xs[k] != ys[k])=false:=by simp[hx]
     have HX:=jq hx;clear hx;go_wp2_with fail;go_roundw
     case rel=>exact⟨k+1,by omega,by go_num,below_drewN HB.out _,jq (Zh aa lC HA.out HX.out)⟩
     case measure=>simp[intOf] <;> omega
    ·have hx':(xs[k] != ys[k])=true:=by simp[hx]
     have HX:=jq hx;clear hx;go_wp2_with fail;go_ret;exact⟨ae (WJ aa lC HX.out),below_drewN HB.out _⟩
   ·go_wp2_with fail;go_ret;refine⟨ae ?_,hb⟩;have h:=HA.out;rw[kQ (by omega),kQ (by have:=HL.out;omega)] at h;simp[h]
 ·have Lu:((xs.length:Int) != (ys.length:Int))=true:=by simp;omega
  go_enter func41,ntmps41;go_wp2_with fail;go_ret;exact⟨ae (by simp;intro e;exact hlen (by rw[e])),vQ _ _⟩
theorem Af{α:Type}{R:afQ α}{sz:Nat}{W:World}{g:Nat}{n:Nat}{xs:List α}(enc:α->List Value)(hlen:∀ x∈xs,(enc x).length=sz)(hn:xs.length=n)
 (hc:∀ j u,(xs.flatMap enc)[j]?=some u->W.cell? ⟨g,j,none⟩=some u) (hg:g<W.heap.size) (hl:xs.length<=140737488355328) (hR:∀ x∈xs,R W W.heap.size (enc x) x):SlR R sz W W.heap.size (.slice (some ⟨g,0,none⟩) n n) xs:=by
 have Ge:∀ (l:List α) (i:Nat) (x:α) (j:Nat) (u:Value),(∀ y∈l,(enc y).length=sz)->l[i]?=some x->(enc x)[j]?=some u->(l.flatMap enc)[i * sz+j]?=some u:=by
  intro l
  induction l with
  | nil=>intro i x j u _ hi;simp at hi
  | cons y l ih=>
   intro i x j u ee hi hj;rw[List.flatMap_cons];have hy:(enc y).length=sz:=ee y (by simp)
   cases i with
   | zero=>
    simp at hi;subst hi;rw[List.getElem?_append_left (by have:=(cQ.1 hj).1;omega)];simpa using hj
   | succ i=>
    rw[oQ (by rw[hy,Nat.succ_mul];omega),hy]
    have:=ih i x j u (λy hy=>ee y (by simp[hy])) (by simpa using hi) hj
    rw[show (i+1) * sz+j - sz=i * sz+j by rw[Nat.succ_mul];omega];exact this
 subst hn;refine⟨_,_,rfl,bQ _,hl,λi x hx=>⟨g,0,enc x,rfl,hg,hlen x (gQ hx),λj u hj=>?_,hR x (gQ hx)⟩⟩;have h1:=hc _ _ (Ge xs i x j u hlen hx hj);rw[show 0+i * sz+j=i * sz+j by omega];exact h1
def lj:Np.Datum:=⟨[],1,0⟩
def jh:Np.Sig:=⟨[120],1,1,10,90,0⟩
def uL:Np.DSet:=⟨[120],1,0,[lj]⟩
theorem TN(w:World)(hR:f9 w w.heap.size) :
 Calls prog 36 #[] w (aeJ w.heap.size w (.bool true)):=by
 have HR:=jq hR;clear hR;go_enter func36,ntmps36;go_wp2_with fail;have b0:(((w.alloc (.cells #[.string ⟨#[]⟩,.int .i64 1,.int .i64 0] 128)).alloc (.cells #[.string ⟨#[120]⟩,.int .i64 1,.int .i64 1,.int .i64 10,.int .i64 90,.int .u64 0] 50)).alloc (.cells #[.string ⟨#[120]⟩,.int .i64 1,.int .i64 0,.slice (some ⟨w.heap.size,0,none⟩) 1 1,.slice (some ⟨w.heap.size+1,0,none⟩) 1 1] 42)).cell? ⟨w.heap.size+1+1,0,none⟩=some (.string ⟨#[120]⟩):=by go_simp
 have b1:(((w.alloc (.cells #[.string ⟨#[]⟩,.int .i64 1,.int .i64 0] 128)).alloc (.cells #[.string ⟨#[120]⟩,.int .i64 1,.int .i64 1,.int .i64 10,.int .i64 90,.int .u64 0] 50)).alloc (.cells #[.string ⟨#[120]⟩,.int .i64 1,.int .i64 0,.slice (some ⟨w.heap.size,0,none⟩) 1 1,.slice (some ⟨w.heap.size+1,0,none⟩) 1 1] 42)).cell? ⟨w.heap.size+1+1,1,none⟩=some (.int .i64 1):=by go_simp
 have b2:(((w.alloc (.cells #[.string ⟨#[]⟩,.int .i64 1,.int .i64 0] 128)).alloc (.cells #[.string ⟨#[120]⟩,.int .i64 1,.int .i64 1,.int .i64 10,.int .i64 90,.int .u64 0] 50)).alloc (.cells #[.string ⟨#[120]⟩,.int .i64 1,.int .i64 0,.slice (some ⟨w.heap.size,0,none⟩) 1 1,.slice (some ⟨w.heap.size+1,0,none⟩) 1 1] 42)).cell? ⟨w.heap.size+1+1,2,none⟩=some (.int .i64 0):=by go_simp
 have b3:(((w.alloc (.cells #[.string ⟨#[]⟩,.int .i64 1,.int .i64 0] 128)).alloc (.cells #[.string ⟨#[120]⟩,.int .i64 1,.int .i64 1,.int .i64 10,.int .i64 90,.int .u64 0] 50)).alloc (.cells #[.string ⟨#[120]⟩,.int .i64 1,.int .i64 0,.slice (some ⟨w.heap.size,0,none⟩) 1 1,.slice (some ⟨w.heap.size+1,0,none⟩) 1 1] 42)).cell? ⟨w.heap.size+1+1,3,none⟩=some (.slice (some ⟨w.heap.size,0,none⟩) 1 1):=by go_simp
 have b4:(((w.alloc (.cells #[.string ⟨#[]⟩,.int .i64 1,.int .i64 0] 128)).alloc (.cells #[.string ⟨#[120]⟩,.int .i64 1,.int .i64 1,.int .i64 10,.int .i64 90,.int .u64 0] 50)).alloc (.cells #[.string ⟨#[120]⟩,.int .i64 1,.int .i64 0,.slice (some ⟨w.heap.size,0,none⟩) 1 1,.slice (some ⟨w.heap.size+1,0,none⟩) 1 1] 42)).cell? ⟨w.heap.size+1+1,4,none⟩=some (.slice (some ⟨w.heap.size+1,0,none⟩) 1 1):=by go_simp
 have al:w.heap.size+1+1<(((w.alloc (.cells #[.string ⟨#[]⟩,.int .i64 1,.int .i64 0] 128)).alloc (.cells #[.string ⟨#[120]⟩,.int .i64 1,.int .i64 1,.int .i64 10,.int .i64 90,.int .u64 0] 50)).alloc (.cells #[.string ⟨#[120]⟩,.int .i64 1,.int .i64 0,.slice (some ⟨w.heap.size,0,none⟩) 1 1,.slice (some ⟨w.heap.size+1,0,none⟩) 1 1] 42)).heap.size:=by simp <;> omega
 have br:Below w.heap.size w (((w.alloc (.cells #[.string ⟨#[]⟩,.int .i64 1,.int .i64 0] 128)).alloc (.cells #[.string ⟨#[120]⟩,.int .i64 1,.int .i64 1,.int .i64 10,.int .i64 90,.int .u64 0] 50)).alloc (.cells #[.string ⟨#[120]⟩,.int .i64 1,.int .i64 0,.slice (some ⟨w.heap.size,0,none⟩) 1 1,.slice (some ⟨w.heap.size+1,0,none⟩) 1 1] 42)):=(((vQ _ w).alloc (bQ _) _).alloc (by simp) _).alloc (by simp;omega) _;have hd:SlR bW 3 (((w.alloc (.cells #[.string ⟨#[]⟩,.int .i64 1,.int .i64 0] 128)).alloc (.cells #[.string ⟨#[120]⟩,.int .i64 1,.int .i64 1,.int .i64 10,.int .i64 90,.int .u64 0] 50)).alloc (.cells #[.string ⟨#[120]⟩,.int .i64 1,.int .i64 0,.slice (some ⟨w.heap.size,0,none⟩) 1 1,.slice (some ⟨w.heap.size+1,0,none⟩) 1 1] 42)) (((w.alloc (.cells #[.string ⟨#[]⟩,.int .i64 1,.int .i64 0] 128)).alloc (.cells #[.string ⟨#[120]⟩,.int .i64 1,.int .i64 1,.int .i64 10,.int .i64 90,.int .u64 0] 50)).alloc (.cells #[.string ⟨#[120]⟩,.int .i64 1,.int .i64 0,.slice (some ⟨w.heap.size,0,none⟩) 1 1,.slice (some ⟨w.heap.size+1,0,none⟩) 1 1] 42)).heap.size (.slice (some ⟨w.heap.size,0,none⟩) 1 1) [lj]:=by
  refine Af (λd=>[.string ⟨d.text.toArray⟩,.int .i64 d.n,.int .i64 d.m]) (by simp) rfl (λj u hj=>?_) (by simp;omega) (by simp) (λx hx=>?_)
  ·match j,hj with
   | 0,hj=>simp[lj] at hj;subst hj;go_simp
   | 1,hj=>simp[lj] at hj;subst hj;go_simp
   | 2,hj=>simp[lj] at hj;subst hj;go_simp
   | j+3,hj=>simp at hj
  ·simp at hx;subst hx;exact⟨⟨#[]⟩,rfl,by decide,rfl⟩
 have hg:SlR cV 6 (((w.alloc (.cells #[.string ⟨#[]⟩,.int .i64 1,.int .i64 0] 128)).alloc (.cells #[.string ⟨#[120]⟩,.int .i64 1,.int .i64 1,.int .i64 10,.int .i64 90,.int .u64 0] 50)).alloc (.cells #[.string ⟨#[120]⟩,.int .i64 1,.int .i64 0,.slice (some ⟨w.heap.size,0,none⟩) 1 1,.slice (some ⟨w.heap.size+1,0,none⟩) 1 1] 42)) (((w.alloc (.cells #[.string ⟨#[]⟩,.int .i64 1,.int .i64 0] 128)).alloc (.cells #[.string ⟨#[120]⟩,.int .i64 1,.int .i64 1,.int .i64 10,.int .i64 90,.int .u64 0] 50)).alloc (.cells #[.string ⟨#[120]⟩,.int .i64 1,.int .i64 0,.slice (some ⟨w.heap.size,0,none⟩) 1 1,.slice (some ⟨w.heap.size+1,0,none⟩) 1 1] 42)).heap.size (.slice (some ⟨w.heap.size+1,0,none⟩) 1 1) [jh]:=by
  refine Af (λd=>[.string ⟨d.zone.toArray⟩,.int .i64 d.key,.int .i64 d.alg,.int .i64 d.frm,.int .i64 d.til,.int .u64 d.sum]) (by simp) rfl (λj u hj=>?_) (by simp <;> omega) (by simp) (λx hx=>?_)
  ·match j,hj with
   | 0,hj=>simp[jh] at hj;subst hj;go_simp
   | 1,hj=>simp[jh] at hj;subst hj;go_simp
   | 2,hj=>simp[jh] at hj;subst hj;go_simp
   | 3,hj=>simp[jh] at hj;subst hj;go_simp
   | 4,hj=>simp[jh] at hj;subst hj;go_simp
   | 5,hj=>simp[jh] at hj;subst hj;go_simp
   | j+6,hj=>simp at hj
  ·simp at hx;subst hx;exact⟨⟨#[120]⟩,rfl,by decide,rfl⟩
 have yh:f9 (((w.alloc (.cells #[.string ⟨#[]⟩,.int .i64 1,.int .i64 0] 128)).alloc (.cells #[.string ⟨#[120]⟩,.int .i64 1,.int .i64 1,.int .i64 10,.int .i64 90,.int .u64 0] 50)).alloc (.cells #[.string ⟨#[120]⟩,.int .i64 1,.int .i64 0,.slice (some ⟨w.heap.size,0,none⟩) 1 1,.slice (some ⟨w.heap.size+1,0,none⟩) 1 1] 42)) (((w.alloc (.cells #[.string ⟨#[]⟩,.int .i64 1,.int .i64 0] 128)).alloc (.cells #[.string ⟨#[120]⟩,.int .i64 1,.int .i64 1,.int .i64 10,.int .i64 90,.int .u64 0] 50)).alloc (.cells #[.string ⟨#[120]⟩,.int .i64 1,.int .i64 0,.slice (some ⟨w.heap.size,0,none⟩) 1 1,.slice (some ⟨w.heap.size+1,0,none⟩) 1 1] 42)).heap.size:=(HR.out.keep br).more (by simp;omega);generalize ((w.alloc (.cells #[.string ⟨#[]⟩,.int .i64 1,.int .i64 0] 128)).alloc (.cells #[.string ⟨#[120]⟩,.int .i64 1,.int .i64 1,.int .i64 10,.int .i64 90,.int .u64 0] 50)).alloc (.cells #[.string ⟨#[120]⟩,.int .i64 1,.int .i64 0,.slice (some ⟨w.heap.size,0,none⟩) 1 1,.slice (some ⟨w.heap.size+1,0,none⟩) 1 1] 42)=W0 at b0 b1 b2 b3 b4 al br hd hg yh |-;have HD:=jq hd;have HG:=jq hg;have sM:=jq yh;have az:=jq br;have s1:Np.gG ⟨uL,[jh]⟩ 5 1000=0:=by decide +kernel
 have s2:Np.fl ⟨uL,[jh]⟩ 5 1000 = [⟨15,86⟩]:=by decide +kernel
 have s3:Np.gG ⟨uL,[jh]⟩ 41 1000=0:=by decide +kernel
 have s4:Np.fl ⟨uL,[jh]⟩ 41 1000 = []:=by decide +kernel
 have s5:Np.gG ⟨uL,[]⟩ 5 70=0:=by decide +kernel
 have s6:Np.fl ⟨uL,[]⟩ 5 70 = [⟨0,70⟩]:=by decide +kernel
 have t1:Np.kP 5 200 100 5 20=0:=by decide +kernel
 have t2:Np.times 5 200 100 5 20 = [5,72,139]:=by decide +kernel
 have t3:Np.kP 5 200 36 5 20=0:=by decide +kernel
 have t4:Np.kP 5 200 33 5 20=32:=by decide +kernel
 have t5:Np.kP 4 200 100 5 20=1:=by decide +kernel
 have S1:=jq s1;have S2:=jq s2;have S3:=jq s3;have S4:=jq s4;have S5:=jq s5;have S6:=jq s6;have T1:=jq t1;have T2:=jq t2;have T3:=jq t3;have T4:=jq t4;have T5:=jq t5;clear hd hg yh br s1 s2 s3 s4 s5 s6 t1 t2 t3 t4 t5;refine (Am ⟨#[120]⟩ (by decide) 1 0 _ _ [lj] [jh] 5 1000 _ sM.out HD.out HG.out).mono ?_;rintro e w1 ⟨x1,rfl,bA,an⟩;rw[show Np.gG ⟨⟨[120],1,0,[lj]⟩,[jh]⟩ 5 1000=0 from S1.out];have bg:=an.size;have w1c0:w1.cell? ⟨w.heap.size+1+1,0,none⟩=some (.string ⟨#[120]⟩):=(an.cell (p:=⟨w.heap.size+1+1,0,none⟩) (by show w.heap.size+1+1<_;omega)).trans b0;have w1c1:w1.cell? ⟨w.heap.size+1+1,1,none⟩=some (.int .i64 1):=(an.cell (p:=⟨w.heap.size+1+1,1,none⟩) (by show w.heap.size+1+1<_;omega)).trans b1;have w1c2:w1.cell? ⟨w.heap.size+1+1,2,none⟩=some (.int .i64 0):=(an.cell (p:=⟨w.heap.size+1+1,2,none⟩) (by show w.heap.size+1+1<_;omega)).trans b2;have w1c3:w1.cell? ⟨w.heap.size+1+1,3,none⟩=some (.slice (some ⟨w.heap.size,0,none⟩) 1 1):=(an.cell (p:=⟨w.heap.size+1+1,3,none⟩) (by show w.heap.size+1+1<_;omega)).trans b3;have w1c4:w1.cell? ⟨w.heap.size+1+1,4,none⟩=some (.slice (some ⟨w.heap.size+1,0,none⟩) 1 1):=(an.cell (p:=⟨w.heap.size+1+1,4,none⟩) (by show w.heap.size+1+1<_;omega)).trans b4;have QI:=jq bA;have ar:=jq an;clear bA an;go_wp2_with fail;refine (Am ⟨#[120]⟩ (by decide) 1 0 _ _ [lj] [jh] 41 1000 _ ((sM.out.keep ar.out).more (by omega)) ((HD.out.keep cu ar.out).more cS (by omega)) ((HG.out.keep cT ar.out).more dU (by omega))).mono ?_;rintro e w2 ⟨x2,rfl,kI,ab⟩;rw[show Np.gG ⟨⟨[120],1,0,[lj]⟩,[jh]⟩ 41 1000=0 from S3.out];have aO:=ab.size;have w2c0:w2.cell? ⟨w.heap.size+1+1,0,none⟩=some (.string ⟨#[120]⟩):=(ab.cell (p:=⟨w.heap.size+1+1,0,none⟩) (by show w.heap.size+1+1<_;omega)).trans w1c0;have w2c1:w2.cell? ⟨w.heap.size+1+1,1,none⟩=some (.int .i64 1):=(ab.cell (p:=⟨w.heap.size+1+1,1,none⟩) (by show w.heap.size+1+1<_;omega)).trans w1c1;have w2c2:w2.cell? ⟨w.heap.size+1+1,2,none⟩=some (.int .i64 0):=(ab.cell (p:=⟨w.heap.size+1+1,2,none⟩) (by show w.heap.size+1+1<_;omega)).trans w1c2;have w2c3:w2.cell? ⟨w.heap.size+1+1,3,none⟩=some (.slice (some ⟨w.heap.size,0,none⟩) 1 1):=(ab.cell (p:=⟨w.heap.size+1+1,3,none⟩) (by show w.heap.size+1+1<_;omega)).trans w1c3;have w2c4:w2.cell? ⟨w.heap.size+1+1,4,none⟩=some (.slice (some ⟨w.heap.size+1,0,none⟩) 1 1):=(ab.cell (p:=⟨w.heap.size+1+1,4,none⟩) (by show w.heap.size+1+1<_;omega)).trans w1c4;have x9:Below W0.heap.size W0 w2:=ar.out.trans (ab.acQ);have qM:=jq kI;have ai:=jq x9;have dJ:=jq ab;clear kI ab x9;go_wp2_with fail;refine (Am ⟨#[120]⟩ (by decide) 1 0 _ _ [lj] [] 5 70 _ ((sM.out.keep ai.out).more (by omega)) ((HD.out.keep cu ai.out).more cS (by omega)) (NZ _ _)).mono ?_;rintro e w3 ⟨x3,rfl,nX,ah⟩;rw[show Np.gG ⟨⟨[120],1,0,[lj]⟩,[]⟩ 5 70=0 from S5.out];have fW:=ah.size;have QJ:=jq nX;have mx:=jq ah;clear nX ah;go_wp2_with fail;refine (Di _ _ _ _ _ _).mono ?_;rintro e w4 ⟨x4,rfl,vH,aq⟩;rw[T1.out];have Bo:=jq vH;have kg:=jq aq;have gX:=aq.size;clear vH aq;go_wp2_with fail;refine (Di _ _ _ _ _ _).mono ?_;rintro e w5 ⟨x5,rfl,zJ,aF⟩;rw[T3.out];have eI:=jq aF;have kJ:=aF.size;clear zJ aF;go_wp2_with fail;refine (Di _ _ _ _ _ _).mono ?_;rintro e w6 ⟨x6,rfl,Vk,aV⟩;rw[T4.out];have iH:=jq aV;have ke:=aV.size;clear Vk aV;go_wp2_with fail;refine (Di _ _ _ _ _ _).mono ?_;rintro e w7 ⟨x7,rfl,Vl,du⟩;rw[T5.out];have wK:=jq du;have rN:=du.size;clear Vl du;go_wp2_with fail;have n1:Below w1.heap.size w1 w7:=(((((dJ.out.trans (mx.out.acQ)).trans (kg.out.acQ)).trans (eI.out.acQ)).trans (iH.out.acQ)).trans (wK.out.acQ));have n3:Below w3.heap.size w3 w7:=(((kg.out.trans (eI.out.acQ)).trans (iH.out.acQ)).trans (wK.out.acQ));have n4:Below w4.heap.size w4 w7:=((eI.out.trans (iH.out.acQ)).trans (wK.out.acQ));have KL:Below w.heap.size w w7:=az.out.trans ((ar.out.trans (n1.acQ)).acQ);have N1:=jq n1;have N3:=jq n3;have N4:=jq n4;have QH:=jq KL;obtain⟨A2,c2,rfl,_,_,_⟩:SlR cB 2 w2 w2.heap.size x2 []:=by have:=qM.out;rwa [show Np.fl ⟨⟨[120],1,0,[lj]⟩,[jh]⟩ 41 1000 = [] from S4.out] at this
 clear n1 n3 n4 KL;have m1:=SlR.more dZ (SlR.keep bR (SlR.keep bR QI.out N1.out) (((vQ w7.heap.size w7).alloc (bQ _) (.cells #[.int .i64 15,.int .i64 86] 110)).acQ)) (by simp;omega:w1.heap.size<=(w7.alloc (.cells #[.int .i64 15,.int .i64 86] 110)).heap.size);refine (vU _ _ _ [⟨15,86⟩] _ m1 ?_).mono ?_
 ·refine Af (λd=>[.int .i64 d.frm,.int .i64 d.til]) (by simp) rfl (λj u hj=>?_) (by simp) (by simp) (λx hx=>?_)
  ·match j,hj with
   | 0,hj=>simp at hj;subst hj;go_simp
   | 1,hj=>simp at hj;subst hj;go_simp
   | j+2,hj=>simp at hj
  ·rfl
 clear m1;rintro e w8 ⟨rfl,fP⟩;rw[show decide (Np.fl ⟨⟨[120],1,0,[lj]⟩,[jh]⟩ 5 1000 = [⟨15,86⟩])=true from uQ S2.out];have vI:w7.heap.size+1<=w8.heap.size:=by have:=fP.size;simpa using this
 have KI:Below w7.heap.size w7 w8:=((vQ _ w7).alloc (bQ _) _).trans (fP.mono (by simp));have jF:=jq KI;clear fP KI;go_wp2_with fail;have m3:=SlR.more dZ (SlR.keep bR (SlR.keep bR (SlR.keep bR QJ.out N3.out) (jF.out.acQ)) (((vQ w8.heap.size w8).alloc (bQ _) (.cells #[.int .i64 0,.int .i64 70] 110)).acQ)) (by simp;omega:w3.heap.size<=(w8.alloc (.cells #[.int .i64 0,.int .i64 70] 110)).heap.size);refine (vU _ _ _ [⟨0,70⟩] _ m3 ?_).mono ?_
 ·refine Af (λd=>[.int .i64 d.frm,.int .i64 d.til]) (by simp) rfl (λj u hj=>?_) (by simp) (by simp) (λx hx=>?_)
  ·match j,hj with
   | 0,hj=>simp at hj;subst hj;go_simp
   | 1,hj=>simp at hj;subst hj;go_simp
   | j+2,hj=>simp at hj
  ·rfl
 clear m3;rintro e w9 ⟨rfl,dj⟩;rw[show decide (Np.fl ⟨⟨[120],1,0,[lj]⟩,[]⟩ 5 70 = [⟨0,70⟩])=true from uQ S6.out];have GJ:w8.heap.size+1<=w9.heap.size:=by have:=dj.size;simpa using this
 have KJ:Below w7.heap.size w7 w9:=jF.out.trans ((((vQ _ w8).alloc (bQ _) _).trans (dj.mono (by simp))).acQ);have gH:=jq KJ;clear dj KJ;go_wp2_with fail;have m4:=SlR.more t8 (SlR.keep kM (SlR.keep kM (SlR.keep kM Bo.out N4.out) (gH.out.acQ)) (((vQ w9.heap.size w9).alloc (bQ _) (.cells #[.int .i64 5,.int .i64 72,.int .i64 139] 3)).acQ)) (by simp;omega:w4.heap.size<=(w9.alloc (.cells #[.int .i64 5,.int .i64 72,.int .i64 139] 3)).heap.size);refine (YJ _ _ _ [5,72,139] _ m4 ?_).mono ?_
 ·refine Af (λd=>[.int .i64 d]) (by simp) rfl (λj u hj=>?_) (by simp) (by simp) (λx hx=>?_)
  ·match j,hj with
   | 0,hj=>simp at hj;subst hj;go_simp
   | 1,hj=>simp at hj;subst hj;go_simp
   | 2,hj=>simp at hj;subst hj;go_simp
   | j+3,hj=>simp at hj
  ·rfl
 clear m4;rintro e w10 ⟨rfl,yr⟩;rw[show decide (Np.times 5 200 100 5 20 = [5,72,139])=true from uQ T2.out];have DC:=jq yr;clear yr;go_wp2_with fail;go_ret;refine⟨rfl,QH.out.trans ((gH.out.trans (((vQ _ w9).alloc (bQ _) _).trans (DC.out.mono (by simp)) |>.acQ)).acQ)⟩
end
end Go.Proofs.YtfnopgdcaanaiaaGreatDoor
