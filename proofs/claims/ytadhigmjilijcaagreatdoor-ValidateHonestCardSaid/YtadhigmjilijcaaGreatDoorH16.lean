/- No condition. -/
import Derived.Test.YtadhigmjilijcaaGreatDoorH10
set_option linter.all false
set_option maxRecDepth 100000
set_option maxHeartbeats 8000000
namespace Go.Proofs.YtadhigmjilijcaaGreatDoor
open Go.Proofs.Tryz
section
open Go.RowKit
attribute [local go_sem] Oper.semAt_some
def VJ(B Kn Qb:Nat)(known:List Np.Signed)(nm:ByteArray)(w:World)(e:Ending)(w':World):Prop:=
 (∃ (x:Np.Signed) (ek:List Value),Np.dF known nm.data.toList 7=some x/\e = .returned (.int .i64 0)/\az w' B ek x/\w'.heap[Kn]?=some (.cells ek.toArray 44 (0,0))/\w.grownBy w' (some Kn))\/
 (Np.dF known nm.data.toList 7=none/\e = .returned (.int .i64 4)/\w'.heap[Qb]?=some (.cells [Value.string nm,.int .i64 7].toArray 27 (0,0))/\(∀ k,k<w.heap.size->k≠Kn->k≠Qb->w'.heap[k]?=w.heap[k]?)/\Below B w w')
theorem set2{w:World}{X:Nat}{u:List Value}{T:TypeId}(hu:u.length=2)(h:w.heap[X]?=some (.cells u.toArray T (0,0)))(a b:Value):((w.setCell ⟨X,0,none⟩ a).setCell ⟨X,1,none⟩ b).heap[X]?=some (.cells [a,b].toArray T (0,0)):=by
 match u,hu with
 | [u0,u1],_=>simp[World.setCell,Array.getElem?_modify,h]
theorem azK(Wy I F An Qb B b o n c i:Nat)(nm:ByteArray)(kv adv:Value)(known:List Np.Signed)(an:ByteArray)(aty al t d:Int)(ea eq:List Value)(w:World)(hi:i<n)(hn:n<=1000)
 (h0:w.cell? ⟨Wy,0,none⟩=some (.slice (some ⟨b,o,none⟩) n c)) (h1:w.cell? ⟨I,0,none⟩=some (.int .i64 i)) (h2:w.cell? ⟨b,o+i,none⟩=some (.string nm))
 (hF:DZ F kv an aty al adv t d w) (heq:eq.length=2) (hQ:w.heap[Qb]?=some (.cells eq.toArray 27 (0,0))) (CK:ea.length=5) (lU:w.heap[An]?=some (.cells ea.toArray 44 (0,0))) (hne:Wy≠An/\I≠An/\F≠An/\Qb≠An/\b≠An) (hB:B<=An) (Q9:B<=Qb) (hk:SlR az 5 w B kv known) (ha:∃ A n c,adv = .slice A n c) :
 Calls prog 123 #[.pointer (some ⟨F,0,none⟩),.pointer (some ⟨Wy,0,none⟩),.pointer (some ⟨I,0,none⟩),.pointer (some ⟨An,0,none⟩),.pointer (some ⟨Qb,0,none⟩)] w (VJ B An Qb known nm w):=by
 obtain⟨v0,v1,rfl⟩:∃ v0 v1,eq = [v0,v1]:=by match eq,heq with | [v0,v1],_=>exact⟨v0,v1,rfl⟩
 obtain⟨u0,u1,u2,u3,u4,rfl⟩:∃ u0 u1 u2 u3 u4,ea = [u0,u1,u2,u3,u4]:=by match ea,CK with | [u0,u1,u2,u3,u4],_=>exact⟨u0,u1,u2,u3,u4,rfl⟩
 obtain⟨X,hX⟩:=aaK ((Np.dF known nm.data.toList 7).getD Np.ky);have HX:=jq hX;have Bq:=jq hk;have gZ:=jq lU;have Xh:=jq hF;obtain⟨n1,n2,n3,n4,n5⟩:=hne;obtain⟨kA,kN,kC,rfl,_,_,_⟩:=cE hk;obtain⟨aA,aN,aC,rfl⟩:=ha;have lW:=World.block_lt_of_cell? w _ h0;have lI:=World.block_lt_of_cell? w _ h1;have lb:=World.block_lt_of_cell? w _ h2;have lF:=World.block_lt_of_cell? w _ (hF 0 _ rfl);have lQ:=(eQ.1 hQ).1;have nZ:=jq hQ;have lA:=(eQ.1 lU).1;simp only at lW lI lb lF;have f0:=hF 0 _ rfl;have f1:=hF 1 _ rfl;have f2:=hF 2 _ rfl;have f3:=hF 3 _ rfl;have f4:=hF 4 _ rfl;have f5:=hF 5 _ rfl;have f6:=hF 6 _ rfl;have df:(0:Int)<=(i:Int):=by omega
 have dg:(i:Int)<(n:Int):=by omega
 have eK:=jq (yQ hB (Nat.le_of_lt lA));clear hX hk lU hF hQ;go_enter func123,ntmps123;go_upto_region 2 with fail
 go_cut [6] (λtv wx=>tv = .bool (Np.dF known nm.data.toList 7).isSome/\MK B An X w wx)
 case first=>
  go_region_with (go_at_call 120;refine (Mk (.slice kA kN kC) (.slice aA aN aC) known an nm aty al t d 7 w.drew B eK.out (Bq.out.keep ax ((vQ _ w).drew)) ⟨_,_,_,rfl⟩).mono ?_;intro e w3 hp;obtain⟨s,a,bb,dA,dn,dc,gA,gn,gc,rfl,aq,cp⟩:=hp.reads;clear hp;have aw:Hid (Below w.heap.size w w3):=jq ((vQ w.heap.size w).drew.trans aq);have rx:=jq cp;have kP:=(aw.out.block An lA).trans gZ.out;have vP:=jq kP;have t0:=af [_,_,_,_,_] kP 0 _ rfl;have t1:=af [_,_,_,_,_] kP 1 _ rfl;have t2:=af [_,_,_,_,_] kP 2 _ rfl;have t3:=af [_,_,_,_,_] kP 3 _ rfl;have t4:=af [_,_,_,_,_] kP 4 _ rfl;have tf:∀ i,w3.frozen? ⟨An,i,none⟩=false:=(λi=>(by simp[World.frozen?,kP]));clear cp aq kP)
  all_goals
   go_wp2_with fail;go_meet
   case rel=>
    have hg:=QT aw.out lA (Fn w3 An (.string s) (.int .i64 a) (.int .i64 bb) (.slice dA dn dc) (.slice gA gn gc));refine⟨rfl,?_⟩;exact⟨_,by rw[<-HX.out];exact ax _ _ _ _ _ rx.out (zo (Fn w3 An _ _ _ _ _) hB (by have:=aw.out.size;have:=eK.out;omega)),UN rfl vP.out _ _ _ _ _,hg⟩
 case rest=>
  obtain⟨rfl,e5,zM,rN,lZ⟩:=hcut;obtain⟨w5,rfl⟩:=aaX wc;have qU:=lZ.size;have hc:∀ k o,k<w.heap.size->k≠An->w5.cell? ⟨k,o,none⟩=w.cell? ⟨k,o,none⟩:=λk o hk hne=>iQ (lZ.block k hk (λe=>hne (by cases e;rfl)));have b0:=(hc Wy 0 lW n1).trans h0;have b1:=(hc I 0 lI n2).trans h1;have b2:=(hc b (o+i) lb n5).trans h2;have nH:w5.heap[Qb]?=some (.cells [v0,v1].toArray 27 (0,0)):=(lZ.block Qb lQ (λe=>n4 (by cases e;rfl))).trans nZ.out;have q0:=af [_,_] nH 0 _ rfl;have q1:=af [_,_] nH 1 _ rfl;have fq:∀ i,w5.frozen? ⟨Qb,i,none⟩=false:=λi=>by simp[World.frozen?,nH]
  have oT:=jq nH;have En:=jq lZ;have He:=jq rN;have IQ:=jq zM;have bN:=jq (show Below B w w5 from zo lZ hB eK.out);obtain⟨O,hO⟩:=aaK (Np.dF known nm.data.toList 7);rw[hO];have HO:=jq hO;clear hc h0 h1 h2 f0 f1 f2 f3 f4 f5 f6 nH lZ rN zM hO
  cases O with
  | some x=>
   simp only[Option.isSome_some];have hxX:X=x:=by rw[<-HX.out,HO.out];rfl
   subst hxX;go_wp2_with fail;go_ret;exact .inl ⟨X,_,HO.out,rfl,IQ.out,He.out,En.out⟩
  | none=>
   simp only[Option.isSome_none];go_wp2_with fail;go_ret;refine .inr ⟨HO.out,rfl,set2 rfl oT.out _ _,λk hk h1 h2=>?_,(bN.out.setCell (p:=⟨Qb,0,none⟩) Q9 _).setCell (p:=⟨Qb,1,none⟩) Q9 _⟩;rw[<-En.out.block k hk (λe=>h1 (by cases e;rfl))];simp only[World.setCell,Array.getElem?_modify];rw[Qc (λe=>h2 e.symm),Qc (λe=>h2 e.symm)]
theorem azX(An Kn F B:Nat)(kv adv:Value)(an:ByteArray)(aty al t d:Int)(ea ek:List Value)(x k:Np.Signed)(w:World)
 (hF:DZ F kv an aty al adv t d w) (lU:w.heap[An]?=some (.cells ea.toArray 44 (0,0))) (zt:w.heap[Kn]?=some (.cells ek.toArray 44 (0,0))) (hB:B<=w.heap.size) (hR:cr w B) (h1:az w B ea x) (h2:az w B ek k) :
 Calls prog 124 #[.pointer (some ⟨An,0,none⟩),.pointer (some ⟨Kn,0,none⟩),.pointer (some ⟨F,0,none⟩)] w (aCX w.heap.size w (.int .i64 (yo (Np.vF x.set k t d)))):=by
 have H1:=jq (aK _ _ _ _ _ h1 hB);have H2:=jq (aK _ _ _ _ _ h2 hB);have HR:=jq (hR.more hB);obtain⟨s,dA,dn,dc,gA,gn,gc,rfl,hs,aB,_,_,hd,hg⟩:=kr H1.out;obtain⟨s2,dA2,dn2,dc2,gA2,gn2,gc2,rfl,ga,oE,_,_,iN,fo⟩:=kr H2.out;have eM:=jq (show iw w w.heap.size [.string s,.int .i64 x.set.type,.int .i64 x.set.life,.slice dA dn dc] x.set from ⟨s,_,hs,aB,hd,rfl⟩);have y0:=af [_,_,_,_,_] lU 0 _ rfl;have y1:=af [_,_,_,_,_] lU 1 _ rfl;have y2:=af [_,_,_,_,_] lU 2 _ rfl;have y3:=af [_,_,_,_,_] lU 3 _ rfl;have k0:=af [_,_,_,_,_] zt 0 _ rfl;have k1:=af [_,_,_,_,_] zt 1 _ rfl;have k2:=af [_,_,_,_,_] zt 2 _ rfl;have k3:=af [_,_,_,_,_] zt 3 _ rfl;have k4:=af [_,_,_,_,_] zt 4 _ rfl;have f5:=hF 5 _ rfl;have f6:=hF 6 _ rfl;obtain⟨r,hr⟩:=aaK (Np.vF x.set k t d);rw[hr];have zb:=jq hr;clear hF lU zt hR h1 h2 hs ga hd iN hg fo hr;go_enter func124,ntmps124;go_wp2_with fail;refine (bdY x.set _ k _ t d w HR.out eM.out H2.out).mono ?_;rintro e w2 ⟨rfl,hb⟩;rw[zb.out];have HB:=jq hb;clear hb y0 y1 y2 y3 k0 k1 k2 k3 k4 f5 f6;go_wp2_with fail;refine (U9 r w2).mono ?_;rintro e w3 ⟨rfl,rfl⟩;go_wp2_with fail;go_ret;exact⟨rfl,HB.out⟩
end
section
open Go.RowKit
theorem azQ(Wy I F An Kb B b o n c i:Nat)(nm:ByteArray)(ab:List UInt8)(kv adv ksv:Value)(known:List Np.Signed)(an:ByteArray)(aty al t d:Int)(ks:List Np.Key)(ea:List Value)(A0:Np.Signed)(w:World)(hi:i<n)(hn:n<=1000)
 (h0:w.cell? ⟨Wy,0,none⟩=some (.slice (some ⟨b,o,none⟩) n c)) (h1:w.cell? ⟨I,0,none⟩=some (.int .i64 i)) (h2:w.cell? ⟨b,o+i,none⟩=some (.string nm)) (h3:nm.data.toList≠[46]->i+1<n/\∃ s:ByteArray,s.data.toList=ab/\w.cell? ⟨b,o+(i+1),none⟩=some (.string s))
 (hF:DZ F kv an aty al adv t d w) (hK:w.cell? ⟨Kb,0,none⟩=some ksv) (CK:ea.length=5) (lU:w.heap[An]?=some (.cells ea.toArray 44 (0,0))) (hne:Wy≠An/\I≠An/\F≠An/\Kb≠An/\b≠An) (hB:B<=An) (hR:cr w B) (hk:SlR az 5 w B kv known) (ha:∃ A n c,adv = .slice A n c) (rJ:az w B ea A0)
 (tF:∀ w',w.grownBy w' (some An)->SlR kK 2 w' w'.heap.size ksv ks) :
 Calls prog 121 #[.pointer (some ⟨Wy,0,none⟩),.pointer (some ⟨I,0,none⟩),.pointer (some ⟨F,0,none⟩),.pointer (some ⟨An,0,none⟩),.pointer (some ⟨Kb,0,none⟩)] w
  (ML B An (if nm.data.toList = [46] then A0 else (Np.dF known nm.data.toList 6).getD Np.ky) (decide (nm.data.toList = [46])||Np.gw ((Np.dF known nm.data.toList 6).getD Np.ky) ab ks t d) w):=by
 by_cases hr:nm.data.toList = [46]
 ·rw[QbQ hr,uQ hr];exact (azJ Wy I F An Kb b o n c i nm w hi hn h0 h1 h2 hr).mono λe w' ⟨he,hw⟩=>⟨ea,he,by rw[<-hw];exact rJ,by rw[<-hw];exact lU,by rw[<-hw];exact QU _ _⟩
 ·rw[Qc hr,tQ hr,Bool.false_or];obtain⟨h4,s,rfl,h5⟩:=h3 hr;exact azZ Wy I F An Kb B b o n c i nm s kv adv ksv known an aty al t d ks ea w h4 hn h0 h1 h2 h5 hr hF hK CK lU hne hB hR hk ha tF
def wL(v:Value)(ks:List Np.Key)(X:Nat->Prop)(w:World):Prop:=(v = .slice none 0 0/\ks = [])\/∃ (R n:Nat) (ds:List Np.Datum),v = .slice (some ⟨R,0,none⟩) n n/\¬ X R/\R<w.heap.size/\lO R n n ds w/\ds.length=n/\n<=1000/\ks=ds.map λd=>⟨d.n,d.m⟩
theorem lO.same{R n k:Nat}{ds:List Np.Datum}{w w':World}(h:lO R n k ds w)(hb:w'.heap[R]?=w.heap[R]?):lO R n k ds w':=by
 obtain⟨xs,h1,h2⟩:=h;refine⟨xs,λj u hj=>?_,h2⟩;obtain⟨h3,h4⟩:=h1 j u hj;exact⟨(iQ (a:=⟨R,j,none⟩) hb).trans h3,by rw[<-h4];unfold World.frozen?;dsimp only;rw[hb]⟩
theorem wL.slr{v:Value}{ks:List Np.Key}{X:Nat->Prop}{w:World}(h:wL v ks X w):SlR kK 2 w w.heap.size v ks:=by
 rcases h with ⟨rfl,rfl⟩ | ⟨R,n,ds,rfl,_,hR,hk,hl,hn,rfl⟩
 ·exact jO _ _
 ·exact hk.slr hl hR hn
theorem wL.keep{v:Value}{ks:List Np.Key}{X Y:Nat->Prop}{w w':World}(h:wL v ks X w)(hz:w.heap.size<=w'.heap.size)(hs:∀ k,k<w.heap.size->¬ X k->w'.heap[k]?=w.heap[k]?)(hY:∀ k,k<w.heap.size->Y k->X k):wL v ks Y w':=by
 rcases h with ⟨rfl,rfl⟩ | ⟨R,n,ds,rfl,hX,hR,hk,hl,hn,rfl⟩
 ·exact .inl ⟨rfl,rfl⟩
 ·exact .inr ⟨R,n,ds,rfl,λh=>hX (hY R hR h),by omega,hk.same (hs R hR hX),hl,hn,rfl⟩
def sJ(W0:Nat)(fv:List Value)(wv:Value)(w:World):Prop:=
 w.heap[W0]?=some (.cells fv.toArray 101 (0,0))/\w.heap[W0+1]?=some (.cells [wv].toArray 102 (0,0))/\w.heap[W0+2]?=some (.cells [Value.string ⟨#[]⟩,.int .i64 0].toArray 27 (0,0))/\w.heap[W0+4]?=some (.cells [Value.string ⟨#[]⟩,.int .i64 0].toArray 27 (0,0))
theorem sJ.keep{W0:Nat}{fv:List Value}{wv:Value}{w w':World}(h:sJ W0 fv wv w)(hs:∀ k,W0<=k->k<W0+5->k≠W0+3->w'.heap[k]?=w.heap[k]?):sJ W0 fv wv w':=
 ⟨(hs _ (by omega) (by omega) (by omega)).trans h.1,(hs _ (by omega) (by omega) (by omega)).trans h.2.1,(hs _ (by omega) (by omega) (by omega)).trans h.2.2.1,(hs _ (by omega) (by omega) (by omega)).trans h.2.2.2⟩
def Ha(res:List Np.Key×Np.oh×Int)(w:World)(e:Ending)(w':World):Prop:=
 ∃ (v:Value) (qn:ByteArray),e = .returned (.tuple #[v,.agg #[.string qn,.int .i64 res.2.1.2],.int .i64 res.2.2])/\qn.data.toList=res.2.1.1/\qn.size<=140737488355328/\wL v res.1 (λk=>k<w.heap.size) w'/\Below w.heap.size w w'
theorem bAK(w:World)(o1 o2 o3 o4 o5 o6:Obj):((((((w.alloc o1).alloc o2).alloc o3).alloc o4).alloc o5).alloc o6).heap[w.heap.size]?=some o1/\((((((w.alloc o1).alloc o2).alloc o3).alloc o4).alloc o5).alloc o6).heap[w.heap.size+1]?=some o2/\((((((w.alloc o1).alloc o2).alloc o3).alloc o4).alloc o5).alloc o6).heap[w.heap.size+2]?=some o3/\((((((w.alloc o1).alloc o2).alloc o3).alloc o4).alloc o5).alloc o6).heap[w.heap.size+3]?=some o4/\((((((w.alloc o1).alloc o2).alloc o3).alloc o4).alloc o5).alloc o6).heap[w.heap.size+4]?=some o5/\((((((w.alloc o1).alloc o2).alloc o3).alloc o4).alloc o5).alloc o6).heap[w.heap.size+5]?=some o6:=by
 have e:((((((w.alloc o1).alloc o2).alloc o3).alloc o4).alloc o5).alloc o6).heap=(((((w.heap.push o1).push o2).push o3).push o4).push o5).push o6:=rfl;rw[e];refine⟨?_,?_,?_,?_,?_,?_⟩<;>simp only[Array.getElem?_push,Array.size_push]<;>(repeat (first | rw[Qc (by omega)] | rw[QbQ (by omega)]))<;>simp
theorem Va{w:World}{B:Nat}{A:Option Addr}{n c:Nat}{xs:List (List UInt8)}(h:SlR RTx 1 w B (.slice A n c) xs){k:Nat}{x:List UInt8}(hx:xs[k]?=some x):∃ (b o:Nat) (s:ByteArray),A=some ⟨b,o,none⟩/\b<B/\s.data.toList=x/\s.size<=140737488355328/\w.cell? ⟨b,o+k,none⟩=some (.string s):=by
 obtain⟨A',c',hv,hc,_,he⟩:=h;simp only[Value.slice.injEq] at hv;obtain⟨rfl,_,_⟩:=hv;obtain⟨b,o,e,rfl,hb,_,hce,s,h1,h2,rfl⟩:=he k x hx;exact⟨b,o,s,rfl,hb,h1,h2,by have:=hce 0 _ rfl;simpa using this⟩
theorem Np.azY{known:List Np.Signed}{anchor:Np.DSet}{t d:Int}{n:List UInt8}{r:List (List UInt8)}{a:List UInt8}{ks:List Np.Key}(h:(decide (n = [46])||Np.gw ((Np.dF known n 6).getD Np.ky) a ks t d)=false):Np.iz known anchor t d (n::r) a ks=([],([],0),31):=by
 simp only[Bool.or_eq_false_iff,decide_eq_false_iff_not] at h;rw[Np.iz,QbQ h]
theorem Np.JS{n:List UInt8}{b:Bool}(h:(decide (n = [46])||b)=true):¬ (n≠[46]/\b=false):=by
 rintro⟨h1,h2⟩;rw[h2,tQ h1] at h
 cases h
theorem Np.aAZ{known:List Np.Signed}{anchor:Np.DSet}{t d:Int}{n:List UInt8}{r:List (List UInt8)}{a:List UInt8}{ks:List Np.Key}(h:(decide (n = [46])||Np.gw ((Np.dF known n 6).getD Np.ky) a ks t d)=true)(h2:Np.dF known n 7=none):Np.iz known anchor t d (n::r) a ks=([],(n,7),4):=by
 rw[Np.iz,Qc (Np.JS h),h2]
theorem Np.QM{anchor:Np.DSet}{n:List UInt8}{X:Np.Signed} : (if n = [46] then (⟨anchor,[]⟩:Np.Signed) else X).set=if n = [46] then anchor else X.set:=by split<;>rfl
theorem Np.aAQ{known:List Np.Signed}{anchor:Np.DSet}{t d:Int}{n:List UInt8}{r:List (List UInt8)}{a:List UInt8}{ks:List Np.Key}{k:Np.Signed}(h:(decide (n = [46])||Np.gw ((Np.dF known n 6).getD Np.ky) a ks t d)=true)(h2:Np.dF known n 7=some k)(h3:Np.vF (if n = [46] then (⟨anchor,[]⟩:Np.Signed) else (Np.dF known n 6).getD Np.ky).set k t d=false):Np.iz known anchor t d (n::r) a ks=([],([],0),31):=by
 rw[Np.QM] at h3;rw[Np.iz,Qc (Np.JS h),h2];dsimp only;rw[h3];rfl
theorem Np.aAJ{known:List Np.Signed}{anchor:Np.DSet}{t d:Int}{n:List UInt8}{r:List (List UInt8)}{a:List UInt8}{ks:List Np.Key}{k:Np.Signed}(h:(decide (n = [46])||Np.gw ((Np.dF known n 6).getD Np.ky) a ks t d)=true)(h2:Np.dF known n 7=some k)(h3:Np.vF (if n = [46] then (⟨anchor,[]⟩:Np.Signed) else (Np.dF known n 6).getD Np.ky).set k t d=true):Np.iz known anchor t d (n::r) a ks=Np.iz known anchor t d r n (Np.kp k.set):=by
 rw[Np.QM] at h3;rw[Np.iz,Qc (Np.JS h),h2];dsimp only;rw[h3];rfl
theorem bFZ(w:World)(o1 o2 o3:Obj):(((w.alloc o1).alloc o2).alloc o3).heap[w.heap.size]?=some o1/\(((w.alloc o1).alloc o2).alloc o3).heap[w.heap.size+1]?=some o2/\(((w.alloc o1).alloc o2).alloc o3).heap[w.heap.size+1+1]?=some o3/\(((w.alloc o1).alloc o2).alloc o3).heap.size=w.heap.size+3/\Below w.heap.size w (((w.alloc o1).alloc o2).alloc o3):=by
 have e:(((w.alloc o1).alloc o2).alloc o3).heap=((w.heap.push o1).push o2).push o3:=rfl;refine⟨?_,?_,?_,by simp,((((vQ _ w).alloc (bQ _) _).alloc (by simp) _).alloc (by simp;omega) _)⟩<;>rw[e]<;>simp only[Array.getElem?_push,Array.size_push]<;>(repeat (first | rw[Qc (by omega)] | rw[QbQ (by omega)]))<;>simp
def QL(pv:Value)(w:World):Nat:=match pv with
 | .pointer (some p)=>match w.cell? p with
   | some (.int _ i)=>(i+1).toNat
   | _=>0
 | _=>0
def MM(known:List Np.Signed)(anchor:Np.DSet)(t d:Int)(names:List (List UInt8))(fv:List Value)(wv:Value)(RES:List Np.Key×Np.oh×Int)(w:World)(ev pv:Value)(wr:World):Prop:=
 ∃ (rem I:Nat) (kv:Value) (ks:List Np.Key),ev = .int .i64 0/\pv = .pointer (some ⟨I,0,none⟩)/\rem<=names.length/\w.heap.size+5<=I/\I<wr.heap.size/\Hid (wr.heap[I]?=some (.cells [Value.int .i64 ((rem:Int) - 1)].toArray 3 (0,0)))/\Hid (sJ w.heap.size fv wv wr)/\
   Hid (wr.heap[w.heap.size+3]?=some (.cells [kv].toArray 46 (0,0)))/\Hid (wL kv ks (λk=>k<w.heap.size+5\/k=I) wr)/\Hid (Below w.heap.size w wr)/\Hid (RES=Np.iz known anchor t d (names.take rem).reverse ((names[rem]?).getD []) ks)
theorem aAX(kv adv:Value)(known:List Np.Signed)(an:ByteArray)(anchor:Np.DSet)(t d:Int)(wv:Value)(names:List (List UInt8))(w:World)(hR:cr w w.heap.size)(hk:SlR az 5 w w.heap.size kv known)(rV:∀ x∈known,Np.bi x.set=true)(han:an.data.toList=anchor.name)(tr:an.size<=140737488355328)(lX:SlR cm 3 w w.heap.size adv anchor.data)
 (hw:SlR RTx 1 w w.heap.size wv names) (hn:names.length<=1000) (u6:∀ i s,names[i]?=some s->i+1=names.length->s = [46]) :
 Calls prog 54 #[zm kv an anchor.type anchor.life adv t d,wv] w (Ha (Np.iz known anchor t d names.reverse [] []) w):=by
 have HK:=jq hk;have nf:=jq lX;have HW:=jq hw;have yP:=jq u6;have fz:=jq rV;have eS:=jq hR;have gZ:=jq han;obtain⟨A,N,C,rfl,_,_,_⟩:=cE hk;obtain⟨aA,aN,aC,rfl,_,_,_⟩:=cE lX;obtain⟨wA,wN,wC,rfl,nM,_,_⟩:=cE hw;have Je:=jq nM;have Td:wN<=1000:=by omega
 obtain⟨RES,gp⟩:=aaK (Np.iz known anchor t d names.reverse [] []);rw[gp];have cR:Hid (RES=Np.iz known anchor t d (names.take wN).reverse ((names[wN]?).getD []) []):=jq (by rw[<-gp,kQ (by omega),List.getElem?_eq_none (by omega)];rfl);unfold zm;have Oe:Hid (∀ w6,((((((w.alloc (.cells [Value.slice A N C,.string an,.int .i64 anchor.type,.int .i64 anchor.life,.slice aA aN aC,.int .i64 t,.int .i64 d].toArray 101)).alloc (.cells [Value.slice wA wN wC].toArray 102)).alloc (.cells [Value.string ⟨#[]⟩,.int .i64 0].toArray 27)).alloc (.cells [Value.slice none 0 0].toArray 46)).alloc (.cells [Value.string ⟨#[]⟩,.int .i64 0].toArray 27)).alloc (.cells [Value.int .i64 ((wN:Int) - 1)].toArray 3))=w6->MM known anchor t d names [Value.slice A N C,.string an,.int .i64 anchor.type,.int .i64 anchor.life,.slice aA aN aC,.int .i64 t,.int .i64 d] (.slice wA wN wC) RES w (.int .i64 0) (.pointer (some ⟨w.heap.size+5,0,none⟩)) w6):=jq (by
  rintro w6 rfl;obtain⟨x1,x2,x3,x4,x5,x6⟩:=bAK w _ _ _ _ _ _;refine⟨wN,w.heap.size+5,.slice none 0 0,[],rfl,rfl,by omega,bQ _,by simp,jq x6,jq ⟨x1,x2,x3,x5⟩,jq x4,jq (.inl ⟨rfl,rfl⟩),jq ?_,cR⟩;exact (((((((vQ _ w).alloc (bQ _) _).alloc (by simp) _).alloc (by simp;omega) _).alloc (by simp;omega) _).alloc (by simp;omega) _).alloc (by simp;omega) _))
 clear hk lX hw u6 rV hR han nM gp cR;go_enter func54,ntmps54;go_wp2_with fail;go_step3;go_wp2_with fail;go_step3;go_wp2_with fail;go_loopw [9,10] (λev pv wr=>MM known anchor t d names [Value.slice A N C,.string an,.int .i64 anchor.type,.int .i64 anchor.life,.slice aA aN aC,.int .i64 t,.int .i64 d] (.slice wA wN wC) RES w ev pv wr) (λ_ pv wr=>QL pv wr)
 case atStart=>exact Oe.out _ rfl
 case round=>
  clear Oe;obtain⟨rem,I,kv,ks,rfl,rfl,zO,hI5,Fr,HI,yL,Bo,Br,HB,IU⟩:=hrel;obtain⟨ws,rfl⟩:=aaX wr;have i0:=af [_] HI.out 0 _ rfl
  cases rem with
  | zero=>
   have i1:ws.cell? ⟨I,0,none⟩=some (.int .i64 (-1)):=by simpa using i0
   have hq:=yL.out.2.2.1;have q0:=af [_,_] hq 0 _ rfl;have q1:=af [_,_] hq 1 _ rfl;have fq:∀ i,ws.frozen? ⟨w.heap.size+2,i,none⟩=false:=λi=>by simp[World.frozen?,hq]
   have kb:=af [_] Bo.out 0 _ rfl;have HE:Hid (RES=(ks,([],0),0)):=jq (by rw[IU.out];rfl);have gN:=Br.out.slr;obtain⟨zA,zN,zC,rfl,_,_,_⟩:=cE gN;clear hq i0 gN;go_wp2_with fail;refine bodyPost_ret (v:=.tuple #[.slice zA zN zC,.agg #[.string ⟨#[]⟩,.int .i64 0],.int .i64 0]) (by simp[results,results54,go_sem,q0,q1]) rfl ?_
   suffices H:∀ W',(∀ g,g<ws.heap.size->g≠w.heap.size+2->W'.heap[g]?=ws.heap[g]?)->ws.heap.size<=W'.heap.size->Below w.heap.size w W'->Ha RES w (.returned (.tuple #[.slice zA zN zC,.agg #[.string ⟨#[]⟩,.int .i64 0],.int .i64 0])) W' by
    refine H _ (λg hg hne=>?_) (by simp[World.setCell]) ((HB.out.blSe (p:=⟨w.heap.size+2,0,none⟩) _).blSe (p:=⟨w.heap.size+2,1,none⟩) _);simp only[World.setCell,Array.getElem?_modify];rw[Qc (λe=>hne (by omega)),Qc (λe=>hne (by omega))]
   intro W' h1 h2 h3;refine⟨_,⟨#[]⟩,by rw[HE.out],by rw[HE.out],by decide,?_,h3⟩;rw[HE.out];exact Br.out.keep (Y:=λk=>k<w.heap.size) h2 (λk hk hx=>h1 k hk (λe=>hx (.inl (by omega)))) (λ_ _ h=>.inl (by omega))
  | succ k=>
   have i1:ws.cell? ⟨I,0,none⟩=some (.int .i64 k):=by rw[i0];congr 2;omega
   have kY:k<names.length:=by omega
   obtain⟨nmL,fJ⟩:∃ x,names[k]?=some x:=⟨_,aQ kY⟩;obtain⟨b,o,nm,rfl,hb,zH,zI,c0⟩:=Va (HW.out.keep jp HB.out) fJ;have f0:=af [_,_,_,_,_,_,_] yL.out.1 1 _ rfl;have f1:=af [_,_,_,_,_,_,_] yL.out.1 2 _ rfl;have f2:=af [_,_,_,_,_,_,_] yL.out.1 3 _ rfl;have f3:=af [_,_,_,_,_,_,_] yL.out.1 4 _ rfl;have l0:w.heap.size<ws.heap.size:=by omega
   have df:(0:Int)<=(k:Int):=by omega
   clear i0;go_wp2_with fail;obtain⟨wa,bo⟩:=aaK (((ws.alloc (.cells #[.string an,.int .i64 anchor.type,.int .i64 anchor.life,.slice aA aN aC,.slice none 0 0] 44)).alloc (.cells #[.string ⟨#[]⟩,.int .i64 0,.int .i64 0,.slice none 0 0,.slice none 0 0] 44)).alloc (.cells #[.func (.func 121) #[] #[.pointer (some ⟨w.heap.size+1,0,none⟩),.pointer (some ⟨I,0,none⟩),.pointer (some ⟨w.heap.size,0,none⟩),.pointer (some ⟨ws.heap.size,0,none⟩),.pointer (some ⟨w.heap.size+1+1+1,0,none⟩)],.func (.func 123) #[] #[.pointer (some ⟨w.heap.size,0,none⟩),.pointer (some ⟨w.heap.size+1,0,none⟩),.pointer (some ⟨I,0,none⟩),.pointer (some ⟨ws.heap.size+1,0,none⟩),.pointer (some ⟨w.heap.size+1+1+1+1,0,none⟩)],.func (.func 124) #[] #[.pointer (some ⟨ws.heap.size,0,none⟩),.pointer (some ⟨ws.heap.size+1,0,none⟩),.pointer (some ⟨w.heap.size,0,none⟩)]] 157));rw[bo];obtain⟨x1,x2,x3,xz,xb⟩:=bFZ ws (.cells #[.string an,.int .i64 anchor.type,.int .i64 anchor.life,.slice aA aN aC,.slice none 0 0] 44) (.cells #[.string ⟨#[]⟩,.int .i64 0,.int .i64 0,.slice none 0 0,.slice none 0 0] 44) (.cells #[.func (.func 121) #[] #[.pointer (some ⟨w.heap.size+1,0,none⟩),.pointer (some ⟨I,0,none⟩),.pointer (some ⟨w.heap.size,0,none⟩),.pointer (some ⟨ws.heap.size,0,none⟩),.pointer (some ⟨w.heap.size+1+1+1,0,none⟩)],.func (.func 123) #[] #[.pointer (some ⟨w.heap.size,0,none⟩),.pointer (some ⟨w.heap.size+1,0,none⟩),.pointer (some ⟨I,0,none⟩),.pointer (some ⟨ws.heap.size+1,0,none⟩),.pointer (some ⟨w.heap.size+1+1+1+1,0,none⟩)],.func (.func 124) #[] #[.pointer (some ⟨ws.heap.size,0,none⟩),.pointer (some ⟨ws.heap.size+1,0,none⟩),.pointer (some ⟨w.heap.size,0,none⟩)]] 157);rw[bo] at x1 x2 x3 xz xb;have pY:=jq (HB.out.trans (xb.mono HB.out.size));have In:Hid (sJ w.heap.size [Value.slice A N C,.string an,.int .i64 anchor.type,.int .i64 anchor.life,.slice aA aN aC,.int .i64 t,.int .i64 d] (.slice (some ⟨b,o,none⟩) wN wC) wa):=jq (yL.out.keep (λk _ h _=>xb.block k (by omega)));have NK:=jq ((xb.block (w.heap.size+3) (by omega)).trans Bo.out);have Rj:=(xb.block I Fr).trans HI.out;have Xy:=jq Rj;have g0:=af [_,_,_] x3 0 _ rfl;have g1:=af [_,_,_] x3 1 _ rfl;have g2:=af [_,_,_] x3 2 _ rfl;have uB:=jq x1;have rC:=jq x2;have s9:=jq x3;have BN:=jq xb;have hYz:ws.heap.size+1+1<wa.heap.size:=by omega
   have ca:wa.cell? ⟨b,o+k,none⟩=some (.string nm):=aaQ xb c0;have cI:wa.cell? ⟨I,0,none⟩=some (.int .i64 k):=(xb.cell (p:=⟨I,0,none⟩) Fr).trans i1;have e1:=atY;have e2:=auQ;have e3:=auZ;obtain⟨aL,Ke⟩:=aaK ((names[k+1]?).getD []);have cu:=jq Ke;have jU:Hid ((names.take (k+1)).reverse=nm.data.toList::(names.take k).reverse):=jq (by
    rw[fQ kY,List.reverse_append];rw[aQ kY] at fJ;simp only[Option.some.injEq] at fJ;rw[zH,<-fJ];rfl)
   have ux:Hid (RES=Np.iz known anchor t d (nm.data.toList::(names.take k).reverse) aL ks):=jq (by rw[IU.out,jU.out,Ke]);have rq:Hid (names[k]?=some nm.data.toList):=jq (by rw[fJ,zH]);clear bo x1 x2 x3 xz xb Rj c0 i1 f0 f1 f2 f3 Ke fJ IU zH;refine wp_loop_rounds 4 ?_;rw[rounds_succ];go_wp2_with fail;refine (azQ (w.heap.size+1) I w.heap.size ws.heap.size (w.heap.size+3) w.heap.size b o wN wC k nm aL (.slice A N C) (.slice aA aN aC) kv known an anchor.type anchor.life t d ks [.string an,.int .i64 anchor.type,.int .i64 anchor.life,.slice aA aN aC,.slice none 0 0] ⟨anchor,[]⟩ wa (by have:=Je.out;omega) Td (af [_] In.out.2.1 0 _ rfl) cI ca ?_ (λj u hj=>af _ In.out.1 j u hj) (af [_] NK.out 0 _ rfl) rfl uB.out (by refine⟨?_,?_,?_,?_,?_⟩<;>omega) (by omega) (eS.out.keep pY.out) (HK.out.keep ax pY.out) ⟨_,_,_,rfl⟩ ⟨an,_,_,gZ.out,tr,nf.out.keep bM pY.out,jO _ _,rfl⟩ ?_).mono ?_
   ·intro hr;have dg:k+1<names.length:=Decidable.byContradiction λh=>hr (yP.out k _ rq.out (by omega));refine⟨by have:=Je.out;omega,?_⟩;obtain⟨x,hx⟩:∃ x,names[k+1]?=some x:=⟨_,aQ dg⟩;obtain⟨b',o',s,RM,_,hs,_,hc⟩:=Va (HW.out.keep jp pY.out) hx;simp only[Option.some.injEq,Addr.mk.injEq,and_true] at RM;obtain⟨rfl,rfl⟩:=RM;exact⟨s,by rw[hs,<-cu.out,hx];rfl,hc⟩
   ·intro w' hg;refine (Br.out.keep (Y:=λ_=>False) (yQ BN.out.size hg.size) (λq hq _=>?_) (λ_ _ h=>h.elim)).slr;exact (hg.block q (lqQ hq BN.out.size) (λe=>by cases e;omega)).trans (BN.out.block q hq)
   rintro e w2 ⟨ea2,rfl,SP,FB,fo⟩;have ga:=fo.size;have KZ:∀ q,q<ws.heap.size->w2.heap[q]?=wa.heap[q]?:=λq hq=>fo.block q (by omega) (λe=>by cases e;omega);have nn:Hid (sJ w.heap.size [Value.slice A N C,.string an,.int .i64 anchor.type,.int .i64 anchor.life,.slice aA aN aC,.int .i64 t,.int .i64 d] (.slice (some ⟨b,o,none⟩) wN wC) w2):=jq (In.out.keep (λq _ h _=>KZ q (by omega)));have dx:Hid (Below w.heap.size w w2):=jq (pY.out.trans (zo fo (by omega) pY.out.size));obtain⟨r1,dl⟩:=aaK (decide (nm.data.toList = [46])||Np.gw ((Np.dF known nm.data.toList 6).getD Np.ky) aL ks t d);rw[dl];have lH:=jq dl;have YC:=jq SP;have VY:=jq FB;have lD:=jq fo;have eC:=jq KZ;clear dl SP FB fo KZ
   cases r1 with
   | false=>
    have HE:Hid (RES=([],([],0),31)):=jq (by rw[ux.out,Np.azY lH.out]);clear ux;rw[show yo false=31 from rfl];have nJ:=nn.out.2.2.1;have q0:=af [_,_] nJ 0 _ rfl;have q1:=af [_,_] nJ 1 _ rfl;have fq:∀ i,w2.frozen? ⟨w.heap.size+2,i,none⟩=false:=λi=>by simp[World.frozen?,nJ]
    have li:=nn.out.2.2.2;have p0:=af [_,_] li 0 _ rfl;have p1:=af [_,_] li 1 _ rfl;have tG:w.heap.size+2<w2.heap.size:=by have:=dx.out.size;omega
    have Sk:w.heap.size+4<w2.heap.size:=by have:=dx.out.size;omega
    clear nJ li;go_wp2_with fail;go_region
    all_goals
     go_wp2_with fail;refine bodyPost_ret (v:=.tuple #[.slice none 0 0,.agg #[.string ⟨#[]⟩,.int .i64 0],.int .i64 31]) (by simp[results,results54,go_sem,q0,q1]) rfl ?_;exact⟨_,⟨#[]⟩,by rw[HE.out],by rw[HE.out],by decide,by rw[HE.out];exact .inl ⟨rfl,rfl⟩,((Below.drew dx.out).blSe (p:=⟨w.heap.size+2,0,none⟩) _).blSe (p:=⟨w.heap.size+2,1,none⟩) _⟩
   | true=>
    rw[show yo true=0 from rfl];have sr:w2.heap[ws.heap.size+1+1]?=some (.cells #[.func (.func 121) #[] #[.pointer (some ⟨w.heap.size+1,0,none⟩),.pointer (some ⟨I,0,none⟩),.pointer (some ⟨w.heap.size,0,none⟩),.pointer (some ⟨ws.heap.size,0,none⟩),.pointer (some ⟨w.heap.size+1+1+1,0,none⟩)],.func (.func 123) #[] #[.pointer (some ⟨w.heap.size,0,none⟩),.pointer (some ⟨w.heap.size+1,0,none⟩),.pointer (some ⟨I,0,none⟩),.pointer (some ⟨ws.heap.size+1,0,none⟩),.pointer (some ⟨w.heap.size+1+1+1+1,0,none⟩)],.func (.func 124) #[] #[.pointer (some ⟨ws.heap.size,0,none⟩),.pointer (some ⟨ws.heap.size+1,0,none⟩),.pointer (some ⟨w.heap.size,0,none⟩)]] 157):=(lD.out.block _ (by omega) (λe=>by simp at e;omega)).trans s9.out;have g0':=af [_,_,_] sr 0 _ rfl;have g1':=af [_,_,_] sr 1 _ rfl;have g2':=af [_,_,_] sr 2 _ rfl;have acX:=jq sr;clear sr g0 g1 g2;go_wp2_with fail;rw[rounds_succ];go_wp2_with fail;refine (azK (w.heap.size+1) I w.heap.size (ws.heap.size+1) (w.heap.size+4) w.heap.size b o wN wC k nm (.slice A N C) (.slice aA aN aC) known an anchor.type anchor.life t d [.string ⟨#[]⟩,.int .i64 0,.int .i64 0,.slice none 0 0,.slice none 0 0] [.string ⟨#[]⟩,.int .i64 0] w2 (by have:=Je.out;omega) Td (af [_] nn.out.2.1 0 _ rfl) ?_ ?_ (λj u hj=>af _ nn.out.1 j u hj) rfl nn.out.2.2.2 rfl ((lD.out.block (ws.heap.size+1) (by omega) (λe=>by simp at e)).trans rC.out) (by refine⟨?_,?_,?_,?_,?_⟩<;>omega) (by omega) (by omega) (HK.out.keep ax dx.out) ⟨_,_,_,rfl⟩).mono ?_
    ·exact (iQ (a:=⟨I,0,none⟩) (eC.out I Fr)).trans cI
    ·exact (iQ (a:=⟨b,o+k,none⟩) (eC.out b (by omega))).trans ca
    rintro e w3 (⟨x,ek,uV,rfl,SQ,jE,ii⟩ | ⟨uV,rfl,gV,vq,Kk⟩)
    case' inr=>
     have bR:=Kk.size;have HE:Hid (RES=([],(nm.data.toList,7),4)):=jq (by rw[ux.out,Np.aAZ lH.out uV]);have iJ:Hid (Below w.heap.size w w3):=jq (dx.out.trans Kk);have YA:=jq ((vq (w.heap.size+2) (by omega) (by omega) (by omega)).trans nn.out.2.2.1);have iY:=jq gV;clear ux gV vq Kk g0' g1' g2';have nJ:=YA.out;have q0:=af [_,_] nJ 0 _ rfl;have q1:=af [_,_] nJ 1 _ rfl;have fq:∀ i,w3.frozen? ⟨w.heap.size+2,i,none⟩=false:=λi=>by simp[World.frozen?,nJ]
     have li:=iY.out;have p0:=af [_,_] li 0 _ rfl;have p1:=af [_,_] li 1 _ rfl;have tG:w.heap.size+2<w3.heap.size:=by have:=iJ.out.size;omega
     have Sk:w.heap.size+4<w3.heap.size:=by have:=iJ.out.size;omega
     clear nJ li;go_wp2_with fail;go_region
     all_goals
      go_wp2_with fail;refine bodyPost_ret (v:=.tuple #[.slice none 0 0,.agg #[.string nm,.int .i64 7],.int .i64 4]) (by simp[results,results54,go_sem,q0,q1]) rfl ?_;exact⟨_,nm,by rw[HE.out],by rw[HE.out],zI,by rw[HE.out];exact .inl ⟨rfl,rfl⟩,((Below.drew iJ.out).blSe (p:=⟨w.heap.size+2,0,none⟩) _).blSe (p:=⟨w.heap.size+2,1,none⟩) _⟩
    have bR:=ii.size;have vq:∀ q,q<w2.heap.size->q≠ws.heap.size+1->w3.heap[q]?=w2.heap[q]?:=λq hq hne=>ii.block q hq (λe=>hne (by cases e;rfl));have yK:Hid (sJ w.heap.size [Value.slice A N C,.string an,.int .i64 anchor.type,.int .i64 anchor.life,.slice aA aN aC,.int .i64 t,.int .i64 d] (.slice (some ⟨b,o,none⟩) wN wC) w3):=jq (nn.out.keep (λq _ h _=>vq q (by omega) (by omega)));have FL:Below w.heap.size w2 w3:=zo ii (by omega) (by have:=dx.out.size;omega);have iJ:Hid (Below w.heap.size w w3):=jq (dx.out.trans FL);have YD:=jq (ax _ _ _ _ _ YC.out FL);have vP:=jq ((vq ws.heap.size (by omega) (by omega)).trans VY.out);have Dt:=(vq (ws.heap.size+1+1) (by omega) (by omega)).trans acX.out;have g0:=af [_,_,_] Dt 0 _ rfl;have g1:=af [_,_,_] Dt 1 _ rfl;have g2:=af [_,_,_] Dt 2 _ rfl;have bTK:=jq Dt;have Be:=jq uV;have uw:=jq SQ;have Ew:=jq jE;have gk:=jq vq;clear Dt uV SQ jE vq ii FL g0' g1' g2';go_wp2_with fail;rw[rounds_succ];go_wp2_with fail;refine (azX ws.heap.size (ws.heap.size+1) w.heap.size w.heap.size (.slice A N C) (.slice aA aN aC) an anchor.type anchor.life t d ea2 ek _ x w3 (λj u hj=>af _ yK.out.1 j u hj) vP.out Ew.out iJ.out.size (eS.out.keep iJ.out) YD.out uw.out).mono ?_;rintro e w4 ⟨rfl,aE⟩;have qN:=aE.size;have Bi:Hid (sJ w.heap.size [Value.slice A N C,.string an,.int .i64 anchor.type,.int .i64 anchor.life,.slice aA aN aC,.int .i64 t,.int .i64 d] (.slice (some ⟨b,o,none⟩) wN wC) w4):=jq (yK.out.keep (λq _ h _=>aE.block q (by omega)));have kI:=jq (iJ.out.trans (aE.mono iJ.out.size));obtain⟨r3,bX⟩:∃ r,Np.vF (if nm.data.toList = [46] then (⟨anchor,[]⟩:Np.Signed) else (Np.dF known nm.data.toList 6).getD Np.ky).set x t d=r:=⟨_,rfl⟩;rw[bX];have ju:=jq bX;have aX:=jq aE;clear bX aE
    cases r3 with
    | false=>
     have HE:Hid (RES=([],([],0),31)):=jq (by rw[ux.out,Np.aAQ lH.out Be.out ju.out]);clear ux;rw[show yo false=31 from rfl];have nJ:=Bi.out.2.2.1;have q0:=af [_,_] nJ 0 _ rfl;have q1:=af [_,_] nJ 1 _ rfl;have fq:∀ i,w4.frozen? ⟨w.heap.size+2,i,none⟩=false:=λi=>by simp[World.frozen?,nJ]
     have li:=Bi.out.2.2.2;have p0:=af [_,_] li 0 _ rfl;have p1:=af [_,_] li 1 _ rfl;have tG:w.heap.size+2<w4.heap.size:=by have:=kI.out.size;omega
     have Sk:w.heap.size+4<w4.heap.size:=by have:=kI.out.size;omega
     clear nJ li;go_wp2_with fail;go_region
     all_goals
      go_wp2_with fail;refine bodyPost_ret (v:=.tuple #[.slice none 0 0,.agg #[.string ⟨#[]⟩,.int .i64 0],.int .i64 31]) (by simp[results,results54,go_sem,q0,q1]) rfl ?_;exact⟨_,⟨#[]⟩,by rw[HE.out],by rw[HE.out],by decide,by rw[HE.out];exact .inl ⟨rfl,rfl⟩,((Below.drew kI.out).blSe (p:=⟨w.heap.size+2,0,none⟩) _).blSe (p:=⟨w.heap.size+2,1,none⟩) _⟩
    | true=>
     rw[show yo true=0 from rfl];go_wp2_with fail;rw[rounds_succ];have YM:Hid (RES=Np.iz known anchor t d (names.take k).reverse nm.data.toList (Np.kp x.set)):=jq (by rw[ux.out,Np.aAJ lH.out Be.out ju.out]);have ft:=(aX.out.block (ws.heap.size+1) (by omega)).trans Ew.out;have hx8:x.set.data.length<=8:=(Np.yu (fz.out x (by have:=Be.out;unfold Np.dF at this;exact List.mem_of_find?_eq_some this))).2.2.2.2.2.2.1;obtain⟨sk,kdA,kdn,kdc,kgA,kgn,kgc,rfl,vr,aYQ,_,_,zE,_⟩:=kr uw.out;have y0:=af [_,_,_,_,_] ft 0 _ rfl;have y1:=af [_,_,_,_,_] ft 1 _ rfl;have y2:=af [_,_,_,_,_] ft 2 _ rfl;have y3:=af [_,_,_,_,_] ft 3 _ rfl;have ip:Hid (iw w4 w4.heap.size [.string sk,.int .i64 x.set.type,.int .i64 x.set.life,.slice kdA kdn kdc] x.set):=jq ⟨sk,_,vr,aYQ,(zE.keep bM (aX.out.mono iJ.out.size)).more bY kI.out.size,rfl⟩;have Bj:Hid (w4.heap[I]?=some (.cells [Value.int .i64 (((k+1:Nat):Int) - 1)].toArray 3 (0,0))):=jq ((aX.out.block I (by omega)).trans ((gk.out I (by omega) (by omega)).trans ((eC.out I Fr).trans Xy.out)));have XG:=jq ((aX.out.block (w.heap.size+3) (by omega)).trans ((gk.out (w.heap.size+3) (by omega) (by omega)).trans ((eC.out (w.heap.size+3) (by omega)).trans NK.out)));clear ft vr zE ux;go_wp2_with fail;refine (TI x.set (by omega) _ w4 ip.out).mono ?_;rintro e w5 ⟨R,m,rfl,hR1,Rr,hm,Se,aO⟩;have zS:=aO.size;have bx:=jq aO;have Ex:=jq Se;have HM:=jq hm;have F2:=(aO.block (w.heap.size+3) (by omega)).trans XG.out;have XH:=jq F2;have R4:=(aO.block I (by omega)).trans Bj.out;have b0:=af [_] F2 0 _ rfl;have fb:∀ i,w5.frozen? ⟨w.heap.size+3,i,none⟩=false:=λi=>by simp[World.frozen?,F2]
     have j0:w5.cell? ⟨I,0,none⟩=some (.int .i64 k):=by rw[af [_] R4 0 _ rfl];congr 2;omega
     have lI5:I<w5.heap.size:=by omega
     have bVY:I≠w.heap.size+3:=by omega
     have lK5:w.heap.size+3<w5.heap.size:=by omega
     clear F2 R4 aO Se hm y0 y1 y2 y3;go_wp2_with fail;go_roundw
     case rel=>
      have KY:∀ g,g<w5.heap.size->g≠w.heap.size+3->((w5.setCell ⟨w.heap.size+1+1+1,0,none⟩ (.slice (some ⟨R,0,none⟩) m m)).alloc (.cells #[.int .i64 ((k:Int) - 1)] 3)).heap[g]?=w5.heap[g]?:=λg hg hne=>by
       rw[@heap_alloc_old _ _ _ (by simp[World.setCell];exact hg)];simp only[World.setCell,Array.getElem?_modify];rw[Qc (λe=>hne (by omega))]
      have zG:=heap_alloc_new (w5.setCell ⟨w.heap.size+1+1+1,0,none⟩ (.slice (some ⟨R,0,none⟩) m m)) (.cells #[.int .i64 ((k:Int) - 1)] 3);have sh:(w5.setCell ⟨w.heap.size+1+1+1,0,none⟩ (.slice (some ⟨R,0,none⟩) m m)).heap.size=w5.heap.size:=by simp[World.setCell]
      rw[sh] at zG;have KH:((w5.setCell ⟨w.heap.size+1+1+1,0,none⟩ (.slice (some ⟨R,0,none⟩) m m)).alloc (.cells #[.int .i64 ((k:Int) - 1)] 3)).heap[w.heap.size+3]?=some (.cells [Value.slice (some ⟨R,0,none⟩) m m].toArray 46 (0,0)):=by
       rw[@heap_alloc_old _ _ _ (by rw[sh];exact lK5)];simp[World.setCell,Array.getElem?_modify,XH.out]
      have qV:((w5.setCell ⟨w.heap.size+1+1+1,0,none⟩ (.slice (some ⟨R,0,none⟩) m m)).alloc (.cells #[.int .i64 ((k:Int) - 1)] 3)).heap.size=w5.heap.size+1:=by rw[World.size_alloc,sh]
      have Q7:Below w.heap.size w ((w5.setCell ⟨w.heap.size+1+1+1,0,none⟩ (.slice (some ⟨R,0,none⟩) m m)).alloc (.cells #[.int .i64 ((k:Int) - 1)] 3)):=((kI.out.trans (bx.out.mono kI.out.size)).blSe (p:=⟨w.heap.size+1+1+1,0,none⟩) _).alloc (by rw[sh];omega) _;generalize ((w5.setCell ⟨w.heap.size+1+1+1,0,none⟩ (.slice (some ⟨R,0,none⟩) m m)).alloc (.cells #[.int .i64 ((k:Int) - 1)] 3))=w7 at KY zG KH qV Q7 |-;have hI7:sJ w.heap.size [Value.slice A N C,.string an,.int .i64 anchor.type,.int .i64 anchor.life,.slice aA aN aC,.int .i64 t,.int .i64 d] (.slice (some ⟨b,o,none⟩) wN wC) w7:=Bi.out.keep (λq _ h h3=>(KY q (by omega) h3).trans (bx.out.block q (by omega)));refine⟨k,w5.heap.size,.slice (some ⟨R,0,none⟩) m m,Np.kp x.set,rfl,rfl,by omega,by omega,by omega,jq zG,jq hI7,jq KH,jq (.inr ⟨R,m,x.set.data,rfl,by omega,by omega,Ex.out.same (KY R Rr (by omega)),HM.out,by have:=HM.out;omega,rfl⟩),jq Q7,jq ?_⟩;rw[YM.out,rq.out];rfl
     case measure=>
      have zG:=heap_alloc_new (w5.setCell ⟨w.heap.size+1+1+1,0,none⟩ (.slice (some ⟨R,0,none⟩) m m)) (.cells #[.int .i64 ((k:Int) - 1)] 3);have sh:(w5.setCell ⟨w.heap.size+1+1+1,0,none⟩ (.slice (some ⟨R,0,none⟩) m m)).heap.size=w5.heap.size:=by simp[World.setCell]
      rw[sh] at zG;have h1:=af [_] zG 0 _ rfl;have h2:=af [_] HI.out 0 _ rfl;unfold QL;dsimp only;rw[h1,h2];dsimp only;omega
theorem Np.Vm(known:List Np.Signed):∀ (k:Nat) (n:List UInt8),(Np.da known k n).2.2=0->(Np.da known k n).1.getLast?=some [46]/\(Np.da known k n).1.length<=k
 | 0,n,h=>by simp[Np.da] at h
 | k+1,n,h=>by
   by_cases hr:n = [46]
   ·rw[Np.da,QbQ hr];subst hr;simp
   ·cases hf:Np.dF known n 6 with
    | none=>rw[Np.da,Qc hr,hf] at h;simp at h
    | some s=>
     cases hs:s.sigs with
     | nil=>rw[Np.da,Qc hr,hf] at h;dsimp only at h;rw[hs] at h;simp at h
     | cons g r=>
      by_cases hb:(!Np.bA n g.zone||n == g.zone)=true
      ·rw[Np.da,Qc hr,hf] at h;dsimp only at h;rw[hs] at h;dsimp only at h;rw[QbQ hb] at h;simp at h
      ·have e:Np.da known (k+1) n=match Np.da known k g.zone with | (l,q,e)=>if e=0 then (n::l,([],0),0) else ([],q,e):=by
        rw[Np.da,Qc hr,hf];dsimp only;rw[hs];dsimp only;rw[Qc hb]
       rw[e] at h |-;have ih:=Np.Vm known k g.zone;generalize Np.da known k g.zone=W at h ih |-;obtain⟨l,q,e⟩:=W;dsimp only at h ih |-;by_cases he:e=0
       ·rw[QbQ he];obtain⟨h1,h2⟩:=ih he;dsimp only;refine⟨?_,by simp;omega⟩
        cases l with
        | nil=>simp at h1
        | cons y l=>simpa using h1
       ·rw[Qc he] at h;exact absurd h he
theorem auY:∀ args w,(callFunc 52 args).run prog w = .ok (.enter 52 args) w:=enters_of func52 (by kernel_rfl) rfl
theorem bjZ(x:Np.Signed)(e:List Value)(w:World)(hR:cr w w.heap.size)(he:az w w.heap.size e x) :
 Calls prog 52 #[.agg e.toArray] w (aCX w.heap.size w (.bool (!Np.bi x.set))):=by
 have HR:=jq hR;obtain⟨s,dA,dn,dc,gA,gn,gc,rfl,hs,aB,_,_,hd,_⟩:=kr he;have HS:=jq hs;have HD:=jq hd;clear hs hd he hR;go_enter func52,ntmps52;go_wp2_with fail;refine (sH s aB x.set.type x.set.life _ x.set.data _ ((HR.out.keep (aG w _)).more (by simp)) (HD.out.later bM bY (aG w _))).mono ?_;rintro e w2 ⟨rfl,hb⟩;have HB:=jq ((aG w _).trans (hb.mono (by simp)));rw[show (⟨s.data.toList,x.set.type,x.set.life,x.set.data⟩:Np.DSet)=x.set by rw[HS.out]];clear hb;go_wp2_with fail;go_ret;exact⟨rfl,HB.out⟩
theorem bjJ(kv adv:Value)(known:List Np.Signed)(an zone:ByteArray)(anchor:Np.DSet)(t d:Int)(w:World)(hR:cr w w.heap.size)(hk:SlR az 5 w w.heap.size kv known)(han:an.data.toList=anchor.name)(tr:an.size<=140737488355328)(lX:SlR cm 3 w w.heap.size adv anchor.data)(lp:zone.size<=140737488355328) :
 Calls prog 18 #[kv,.agg #[.string an,.int .i64 anchor.type,.int .i64 anchor.life,adv],.string zone,.int .i64 t,.int .i64 d] w (Ha (Np.pC known anchor zone.data.toList t d) w):=by
 have HK:=jq hk;have nf:=jq lX;have eS:=jq hR;have gZ:=jq han;obtain⟨A,N,C,rfl,hN,_,_⟩:=cE hk;have HN:=jq hN;obtain⟨aA,aN,aC,rfl,_,_,_⟩:=cE lX;obtain⟨RES,gp⟩:=aaK (Np.pC known anchor zone.data.toList t d);rw[gp];have cR:=jq gp.symm;obtain⟨w1,ah⟩:=aaK (w.alloc (.cells #[.string an,.int .i64 anchor.type,.int .i64 anchor.life,.slice aA aN aC] 25));have z1:w1.heap.size=w.heap.size+1:=by rw[<-ah];simp
 obtain⟨w0,fw⟩:=aaK (w1.alloc (.cells #[.string ⟨#[]⟩,.int .i64 0] 27));have oj:Below w.heap.size w w0:=by rw[<-fw,<-ah];exact (blAl).alloc (by simp) _
 have av:Below w1.heap.size w1 w0:=by rw[<-fw];exact aG _ _
 have l0:w.heap.size+1<w0.heap.size:=by rw[<-fw];simp;omega
 have vy:=de (r:=[.string an,.int .i64 anchor.type,.int .i64 anchor.life,.slice aA aN aC]) rfl ah;have fk:Hid (∀ wz,Below w0.heap.size w0 wz->∀ (j:Nat) u,[Value.string an,.int .i64 anchor.type,.int .i64 anchor.life,.slice aA aN aC][j]?=some u->wz.cell? ⟨w.heap.size,j,none⟩=some u):=jq (λwz hb j u hj=>aaQ hb ((cl av (by omega)).trans (vy j u hj)));have HQ:Hid (∀ wz,Below w0.heap.size w0 wz->wz.heap[w.heap.size+1]?=some (.cells [Value.string ⟨#[]⟩,.int .i64 0].toArray 27 (0,0))):=jq (λwz hb=>(hb.block _ l0).trans (by
  have:=heap_alloc_new w1 (.cells #[.string ⟨#[]⟩,.int .i64 0] 27)
  rwa [fw,z1] at this))
 have aD:=jq oj;have a0:=fk.out w0 (vQ _ _) 0 _ rfl;have a1:=fk.out w0 (vQ _ _) 1 _ rfl;have a2:=fk.out w0 (vQ _ _) 2 _ rfl;have a3:=fk.out w0 (vQ _ _) 3 _ rfl;have hq:=HQ.out w0 (vQ _ _);have q0:=af [_,_] hq 0 _ rfl;have q1:=af [_,_] hq 1 _ rfl;have fq:∀ i,w0.frozen? ⟨w.heap.size+1,i,none⟩=false:=λi=>by simp[World.frozen?,hq]
 have lq:w.heap.size+1<w0.heap.size:=by exact l0
 clear hq;clear hk hR lX han hN gp oj av vy;go_enter func18,ntmps18;by_cases Rn:400<N
 ·have Fu:(400:Int)<(N:Int):=by omega
  have HE:Hid (RES=([],([],0),1)):=jq (by rw[cR.out,Np.pC,QbQ (.inl (by rw[HN.out];exact Rn))]);clear cR;go_wp2_with fail;clear fw ah z1;go_wp2_with fail;refine bodyPost_ret (v:=.tuple #[.slice none 0 0,.agg #[.string ⟨#[]⟩,.int .i64 0],.int .i64 1]) (by simp[results,results18,go_sem,q0,q1]) rfl ?_;exact⟨_,⟨#[]⟩,by rw[HE.out],by rw[HE.out],by decide,by rw[HE.out];exact .inl ⟨rfl,rfl⟩,(aD.out.blSe (p:=⟨w.heap.size+1,0,none⟩) _).blSe (p:=⟨w.heap.size+1,1,none⟩) _⟩
 have Fu:¬ (400:Int)<(N:Int):=by omega
 have nX:Hid (¬ 400<known.length):=jq (by rw[HN.out];exact Rn);go_wp2_with fail;clear fw ah z1;go_wp2_with fail;refine (sH an tr anchor.type anchor.life _ anchor.data w0 ((eS.out.keep aD.out).more aD.out.size) (nf.out.later bM bY aD.out)).mono ?_;rintro e w2 ⟨rfl,hb⟩;have am:=jq hb;have dx:=jq (aD.out.trans (am.out.mono aD.out.size));rw[show (⟨an.data.toList,anchor.type,anchor.life,anchor.data⟩:Np.DSet)=anchor by rw[gZ.out]];obtain⟨r,hr⟩:=aaK (Np.bi anchor);rw[hr];have mC:=jq hr;clear hr hb a0 a1 a2 a3 q0 q1 fq lq;have hq:=HQ.out w2 am.out;have q0:=af [_,_] hq 0 _ rfl;have q1:=af [_,_] hq 1 _ rfl;have fq:∀ i,w2.frozen? ⟨w.heap.size+1,i,none⟩=false:=λi=>by simp[World.frozen?,hq]
 have lq:w.heap.size+1<w2.heap.size:=by have:=am.out.size;omega
 clear hq
 cases r with
 | false=>
  have HE:Hid (RES=([],([],0),1)):=jq (by rw[cR.out,Np.pC,QbQ (.inr (.inl mC.out))]);clear cR;go_wp2_with fail;refine bodyPost_ret (v:=.tuple #[.slice none 0 0,.agg #[.string ⟨#[]⟩,.int .i64 0],.int .i64 1]) (by simp[results,results18,go_sem,q0,q1]) rfl ?_;exact⟨_,⟨#[]⟩,by rw[HE.out],by rw[HE.out],by decide,by rw[HE.out];exact .inl ⟨rfl,rfl⟩,(dx.out.blSe (p:=⟨w.heap.size+1,0,none⟩) _).blSe (p:=⟨w.heap.size+1,1,none⟩) _⟩
 | true=>
  have b0:=fk.out w2 am.out 0 _ rfl;have b1:=fk.out w2 am.out 1 _ rfl;have b2:=fk.out w2 am.out 2 _ rfl;have b3:=fk.out w2 am.out 3 _ rfl;by_cases bm:anchor.type=6
  case' neg=>
   have vu:(anchor.type == 6)=false:=by simpa using bm
   have vv:(anchor.type != 6)=true:=by simpa using bm
   have HE:Hid (RES=([],([],0),1)):=jq (by rw[cR.out,Np.pC,QbQ (.inr (.inr (.inl bm)))]);clear cR bm;go_wp2_with fail;refine bodyPost_ret (v:=.tuple #[.slice none 0 0,.agg #[.string ⟨#[]⟩,.int .i64 0],.int .i64 1]) (by simp[results,results18,go_sem,q0,q1]) rfl ?_;exact⟨_,⟨#[]⟩,by rw[HE.out],by rw[HE.out],by decide,by rw[HE.out];exact .inl ⟨rfl,rfl⟩,(dx.out.blSe (p:=⟨w.heap.size+1,0,none⟩) _).blSe (p:=⟨w.heap.size+1,1,none⟩) _⟩
  have vu:(anchor.type == 6)=true:=by simpa using bm
  have vv:(anchor.type != 6)=false:=by simpa using bm
  by_cases zP:an.data.toList = [46]
  case' neg=>
   have jH:(an.toList == [46])=false:=by rw[dQ];simpa using zP
   have HE:Hid (RES=([],([],0),1)):=jq (by rw[cR.out,Np.pC,QbQ (.inr (.inr (.inr (by rw[<-gZ.out];exact zP))))]);clear cR zP bm;go_wp2_with fail;refine bodyPost_ret (v:=.tuple #[.slice none 0 0,.agg #[.string ⟨#[]⟩,.int .i64 0],.int .i64 1]) (by simp[results,results18,go_sem,q0,q1]) rfl ?_;exact⟨_,⟨#[]⟩,by rw[HE.out],by rw[HE.out],by decide,by rw[HE.out];exact .inl ⟨rfl,rfl⟩,(dx.out.blSe (p:=⟨w.heap.size+1,0,none⟩) _).blSe (p:=⟨w.heap.size+1,1,none⟩) _⟩
  have jH:(an.toList == [46])=true:=by rw[dQ,zP];rfl
  have uv:Hid (RES=if Np.ai zone.data.toList=false\/Np.dC zone.data.toList=true\/Np.mo t d=false then ([],([],0),1) else
   if (known.any λs=>!Np.bi s.set) then ([],([],0),1) else match Np.da known 10 zone.data.toList with | (l,q,e)=>if e=0 then Np.iz known anchor t d l.reverse [] [] else ([],q,e)):=jq (by
   rw[cR.out,Np.pC,Qc (by
    rintro (h | h | h | h)
    ·exact nX.out h
    ·rw[mC.out] at h;cases h
    ·exact h bm
    ·exact h (by rw[<-gZ.out];exact zP))])
  clear cR zP bm b2 b3;go_wp2_with fail;refine (nameValid_any zone lp w2).mono ?_;rintro e w3 ⟨rfl,hb⟩;have aw:=jq (am.out.trans (hb.mono am.out.size));have iJ:=jq (aD.out.trans (aw.out.mono aD.out.size));obtain⟨r,hr⟩:=aaK (Np.ai zone.data.toList);rw[hr];have sZ:=jq hr;clear hr hb b0 b1 q0 q1 fq lq vu vv jH;have hq:=HQ.out w3 aw.out;have q0:=af [_,_] hq 0 _ rfl;have q1:=af [_,_] hq 1 _ rfl;have fq:∀ i,w3.frozen? ⟨w.heap.size+1,i,none⟩=false:=λi=>by simp[World.frozen?,hq]
  have lq:w.heap.size+1<w3.heap.size:=by have:=aw.out.size;omega
  clear hq
  cases r with
  | false=>
   have HE:Hid (RES=([],([],0),1)):=jq (by rw[uv.out,QbQ (.inl sZ.out)]);clear uv;go_wp2_with fail;refine bodyPost_ret (v:=.tuple #[.slice none 0 0,.agg #[.string ⟨#[]⟩,.int .i64 0],.int .i64 1]) (by simp[results,results18,go_sem,q0,q1]) rfl ?_;exact⟨_,⟨#[]⟩,by rw[HE.out],by rw[HE.out],by decide,by rw[HE.out];exact .inl ⟨rfl,rfl⟩,(iJ.out.blSe (p:=⟨w.heap.size+1,0,none⟩) _).blSe (p:=⟨w.heap.size+1,1,none⟩) _⟩
  | true=>
   go_wp2_with fail;refine (Cz zone lp w3).mono ?_;rintro e w4 ⟨rfl,rfl⟩;obtain⟨r,hr⟩:=aaK (Np.dC zone.data.toList);rw[hr];have EP:=jq hr;clear hr
   cases r with
   | true=>
    have HE:Hid (RES=([],([],0),1)):=jq (by rw[uv.out,QbQ (.inr (.inl EP.out))]);clear uv;go_wp2_with fail;refine bodyPost_ret (v:=.tuple #[.slice none 0 0,.agg #[.string ⟨#[]⟩,.int .i64 0],.int .i64 1]) (by simp[results,results18,go_sem,q0,q1]) rfl ?_;exact⟨_,⟨#[]⟩,by rw[HE.out],by rw[HE.out],by decide,by rw[HE.out];exact .inl ⟨rfl,rfl⟩,(iJ.out.blSe (p:=⟨w.heap.size+1,0,none⟩) _).blSe (p:=⟨w.heap.size+1,1,none⟩) _⟩
   | false=>
    go_wp2_with fail;refine (Ms t d w3).mono ?_;rintro e w4 ⟨rfl,di⟩;subst w4;obtain⟨r,hr⟩:=aaK (Np.mo t d);rw[hr];have EN:=jq hr;clear hr
    cases r with
    | false=>
     have HE:Hid (RES=([],([],0),1)):=jq (by rw[uv.out,QbQ (.inr (.inr EN.out))]);clear uv;go_wp2_with fail;refine bodyPost_ret (v:=.tuple #[.slice none 0 0,.agg #[.string ⟨#[]⟩,.int .i64 0],.int .i64 1]) (by simp[results,results18,go_sem,q0,q1]) rfl ?_;exact⟨_,⟨#[]⟩,by rw[HE.out],by rw[HE.out],by decide,by rw[HE.out];exact .inl ⟨rfl,rfl⟩,(iJ.out.blSe (p:=⟨w.heap.size+1,0,none⟩) _).blSe (p:=⟨w.heap.size+1,1,none⟩) _⟩
    | true=>
     have EI:Hid (RES=if (known.any λs=>!Np.bi s.set) then ([],([],0),1) else match Np.da known 10 zone.data.toList with | (l,q,e)=>if e=0 then Np.iz known anchor t d l.reverse [] [] else ([],q,e)):=jq (by
      rw[uv.out,Qc (by
       rintro (h | h | h)
       ·rw[sZ.out] at h;cases h
       ·rw[EP.out] at h;cases h
       ·rw[EN.out] at h;cases h)])
     clear uv;go_wp2_with fail;refine (QH 52 auY #[] (λs=>!Np.bi s.set) _ known w3 w.heap.size iJ.out.size (HK.out.keep ax iJ.out) ?_).mono ?_
     ·intro W x e hx hW pf qu;have xk:=iJ.out.trans (hW.mono iJ.out.size);exact bjZ x e W ((eS.out.keep xk).more xk.size) (aK _ _ _ _ _ qu xk.size)
     rintro e w4 ⟨fs,fa,fb,fv,fu,rfl,aE,hf,hz⟩;have aX:=jq (aw.out.trans (aE.mono aw.out.size));have Kf:∃ (dA:Option Addr) (dn dc:Nat) (gA:Option Addr) (gn gc:Nat),fv = .slice dA dn dc/\fu = .slice gA gn gc:=by
      cases hk:known.find? (λs=>!Np.bi s.set) with
      | none=>
       have h0:=hz (by rw[Jv,hk];rfl);simp only[List.cons.injEq] at h0;exact⟨none,0,0,none,0,0,h0.2.2.2.1,h0.2.2.2.2.1⟩
      | some x=>
       obtain⟨s',dA,dn,dc,gA,gn,gc,he,_⟩:=kr (hf x hk);simp only[List.cons.injEq] at he;exact⟨dA,dn,dc,gA,gn,gc,he.2.2.2.1,he.2.2.2.2.1⟩
     obtain⟨fdA,fdn,fdc,fgA,fgn,fgc,rfl,rfl⟩:=Kf;obtain⟨r,hr⟩:=aaK (known.any λs=>!Np.bi s.set);rw[hr];have Hg:=jq hr;clear hr aE hf hz q0 q1 fq lq;obtain⟨w5,aS⟩:=aaK (w4.alloc (.cells #[.string fs,.int .i64 fa,.int .i64 fb,.slice fdA fdn fdc,.slice fgA fgn fgc] 44));have bx:Hid (Below w0.heap.size w0 w5):=jq (aX.out.trans ((by rw[<-aS];exact aG _ _:Below w4.heap.size w4 w5).mono aX.out.size));have wI:=jq (aD.out.trans (bx.out.mono aD.out.size));have hq:=HQ.out w5 bx.out;have q0:=af [_,_] hq 0 _ rfl;have q1:=af [_,_] hq 1 _ rfl;have fq:∀ i,w5.frozen? ⟨w.heap.size+1,i,none⟩=false:=λi=>by simp[World.frozen?,hq]
     have lq:w.heap.size+1<w5.heap.size:=by have:=bx.out.size;omega
     clear hq
     cases r with
     | true=>
      have HE:Hid (RES=([],([],0),1)):=jq (by rw[EI.out,Hg.out];rfl);clear EI;go_wp2_with fail;clear aS;go_wp2_with fail;refine bodyPost_ret (v:=.tuple #[.slice none 0 0,.agg #[.string ⟨#[]⟩,.int .i64 0],.int .i64 1]) (by simp[results,results18,go_sem,q0,q1]) rfl ?_;exact⟨_,⟨#[]⟩,by rw[HE.out],by rw[HE.out],by decide,by rw[HE.out];exact .inl ⟨rfl,rfl⟩,(wI.out.blSe (p:=⟨w.heap.size+1,0,none⟩) _).blSe (p:=⟨w.heap.size+1,1,none⟩) _⟩
     | false=>
      have EJ:Hid (RES=match Np.da known 10 zone.data.toList with | (l,q,e)=>if e=0 then Np.iz known anchor t d l.reverse [] [] else ([],q,e)):=jq (by rw[EI.out,Hg.out];rfl);have fz:Hid (∀ x∈known,Np.bi x.set=true):=jq (λx hx=>by have:=List.any_eq_false.1 Hg.out x hx;simpa using this);have a0:=fk.out w5 bx.out 0 _ rfl;have a1:=fk.out w5 bx.out 1 _ rfl;have a2:=fk.out w5 bx.out 2 _ rfl;have a3:=fk.out w5 bx.out 3 _ rfl;obtain⟨w6,cS⟩:=aaK (w5.alloc (.cells #[.slice A N C,.string an,.int .i64 anchor.type,.int .i64 anchor.life,.slice aA aN aC,.int .i64 t,.int .i64 d] 101));have bE:Below w5.heap.size w5 w6:=by rw[<-cS];exact aG _ _
      have l6:w5.heap.size<w6.heap.size:=by rw[<-cS];simp
      have Ti:=de (r:=[.slice A N C,.string an,.int .i64 anchor.type,.int .i64 anchor.life,.slice aA aN aC,.int .i64 t,.int .i64 d]) rfl cS;have no:Hid (∀ wz,Below w6.heap.size w6 wz->∀ (j:Nat) u,[Value.slice A N C,.string an,.int .i64 anchor.type,.int .i64 anchor.life,.slice aA aN aC,.int .i64 t,.int .i64 d][j]?=some u->wz.cell? ⟨w5.heap.size,j,none⟩=some u):=jq (λwz hb j u hj=>(hb.cell (p:=⟨w5.heap.size,j,none⟩) l6).trans (Ti j u hj));have bH:=jq (bx.out.trans (bE.mono bx.out.size));have HW6:=jq (aD.out.trans (bH.out.mono aD.out.size));have y0:=no.out w6 (vQ _ _) 0 _ rfl;have y1:=no.out w6 (vQ _ _) 1 _ rfl;have y2:=no.out w6 (vQ _ _) 2 _ rfl;have y3:=no.out w6 (vQ _ _) 3 _ rfl;have y4:=no.out w6 (vQ _ _) 4 _ rfl;have y5:=no.out w6 (vQ _ _) 5 _ rfl;have y6:=no.out w6 (vQ _ _) 6 _ rfl;clear EI bE Ti q0 q1 fq lq;go_wp2_with fail;clear aS;go_wp2_with fail;clear cS;go_wp2_with fail;refine (bMZ (.slice A N C) (.slice aA aN aC) known an zone anchor.type anchor.life t d sZ.out w6 (HK.out.later ax aK HW6.out) ⟨_,_,_,rfl⟩).mono ?_;rintro e w7 ⟨wv,qn,rfl,vg,SN,er,bF⟩;have cw:=jq (bH.out.trans (bF.mono bH.out.size));have D6:=jq bF;have HW7:=jq (aD.out.trans (cw.out.mono aD.out.size));have gN:=jq er;have wB:=jq vg;have Yt:=jq SN;have l4:=Np.Vm known 10 zone.data.toList;have FU:=Np.Vl known 10 zone.data.toList;obtain⟨WR,Kd⟩:=aaK (Np.da known 10 zone.data.toList);rw[Kd] at EJ gN wB l4 FU;rw[Kd];obtain⟨l,⟨qn',qt⟩,ec⟩:=WR;dsimp only at l4 FU |-;have yP:=jq l4;have HFO:=jq FU;obtain⟨lA,lN,lC,rfl,hlN,_,_⟩:=cE er;clear l4 FU vg SN er bF Kd a0 a1 a2 a3 y0 y1 y2 y3 y4 y5 y6 hlN;obtain⟨w8,dX⟩:=aaK (w7.alloc (.cells #[.string qn,.int .i64 qt] 27));have cA:Below w7.heap.size w7 w8:=by rw[<-dX];exact aG _ _
      have l8:w7.heap.size<w8.heap.size:=by rw[<-dX];simp
      have KS:=de (r:=[.string qn,.int .i64 qt]) rfl dX;have yX:Hid (∀ wz,Below w8.heap.size w8 wz->∀ (j:Nat) u,[Value.string qn,.int .i64 qt][j]?=some u->wz.cell? ⟨w7.heap.size,j,none⟩=some u):=jq (λwz hb j u hj=>(hb.cell (p:=⟨w7.heap.size,j,none⟩) l8).trans (KS j u hj));have dZ:=jq (cw.out.trans (cA.mono cw.out.size));have vS:=jq (D6.out.trans (cA.mono D6.out.size));have rA:=jq (aD.out.trans (dZ.out.mono aD.out.size));have Y1:=jq (gN.out.later jp Au cA);have p0:=yX.out w8 (vQ _ _) 0 _ rfl;have p1:=yX.out w8 (vQ _ _) 1 _ rfl;have y0:=no.out w8 vS.out 0 _ rfl;have y1:=no.out w8 vS.out 1 _ rfl;have y2:=no.out w8 vS.out 2 _ rfl;have y3:=no.out w8 vS.out 3 _ rfl;have y4:=no.out w8 vS.out 4 _ rfl;have y5:=no.out w8 vS.out 5 _ rfl;have y6:=no.out w8 vS.out 6 _ rfl;have hq:=HQ.out w8 dZ.out;have q0:=af [_,_] hq 0 _ rfl;have q1:=af [_,_] hq 1 _ rfl;have fq:∀ i,w8.frozen? ⟨w.heap.size+1,i,none⟩=false:=λi=>by simp[World.frozen?,hq]
      have lq:w.heap.size+1<w8.heap.size:=by have:=dZ.out.size;omega
      clear hq;clear KS cA;by_cases xC:ec=0
      case' neg=>
       have aNZ:(ec != 0)=true:=by simpa using xC
       have HE:Hid (RES=([],(qn.data.toList,qt),ec)):=jq (by rw[EJ.out];dsimp only;rw[Qc xC,wB.out]);clear xC;go_wp2_with fail;clear dX;go_wp2_with fail;go_region
       all_goals
        go_wp2_with fail;refine bodyPost_ret (v:=.tuple #[.slice none 0 0,.agg #[.string qn,.int .i64 qt],.int .i64 ec]) (by simp[results,results18,go_sem,q0,q1]) rfl ?_;exact⟨_,qn,by rw[HE.out],by rw[HE.out],Yt.out,by rw[HE.out];exact .inl ⟨rfl,rfl⟩,((Below.drew rA.out).blSe (p:=⟨w.heap.size+1,0,none⟩) _).blSe (p:=⟨w.heap.size+1,1,none⟩) _⟩
      have aNZ:(ec != 0)=false:=by simpa using xC
      have HE:Hid (RES=Np.iz known anchor t d l.reverse [] []):=jq (by rw[EJ.out];dsimp only;rw[QbQ xC]);have rq:=jq (yP.out xC);clear xC EJ;go_wp2_with fail;clear dX;go_wp2_with fail;refine (aAX (.slice A N C) (.slice aA aN aC) known an anchor t d (.slice lA lN lC) l w8 (((eS.out.keep rA.out)).more rA.out.size) (HK.out.later ax aK rA.out) fz.out gZ.out tr (nf.out.later bM bY rA.out) Y1.out (by have:=rq.out.2;omega) ?_).mono ?_
      ·intro i s hi hl;have h1:=rq.out.1;rw[List.getLast?_eq_getElem?,show l.length - 1=i by omega,hi] at h1;exact Option.some.inj h1
      rintro e w9 ⟨fv,fqn,rfl,Kv,zz,uV,cW⟩;obtain⟨FR,Rh⟩:=aaK (Np.iz known anchor t d l.reverse [] []);rw[Rh] at HE Kv uV |-;obtain⟨ks,⟨fqs,fqt⟩,fec⟩:=FR;have eJ:=jq (dZ.out.trans (cW.mono dZ.out.size));have Xi:=jq Kv;have If:=jq zz;have Be:=jq uV;have rB:=jq (aD.out.trans (eJ.out.mono aD.out.size));have l9:=cW.size;clear Rh Kv zz uV cW q0 q1 fq lq p0 p1 y0 y1 y2 y3 y4 y5 y6;have hq:=HQ.out w9 eJ.out;have q0:=af [_,_] hq 0 _ rfl;have q1:=af [_,_] hq 1 _ rfl;have fq:∀ i,w9.frozen? ⟨w.heap.size+1,i,none⟩=false:=λi=>by simp[World.frozen?,hq]
      have lq:w.heap.size+1<w9.heap.size:=by have:=eJ.out.size;omega
      clear hq;go_wp2_with fail;refine bodyPost_ret (v:=.tuple #[fv,.agg #[.string fqn,.int .i64 fqt],.int .i64 fec]) (by simp[results,results18,go_sem,q0,q1]) rfl ?_;refine⟨_,fqn,by rw[HE.out],by rw[HE.out];exact Xi.out,If.out,?_,(rB.out.blSe (p:=⟨w.heap.size+1,0,none⟩) _).blSe (p:=⟨w.heap.size+1,1,none⟩) _⟩;rw[HE.out];have su:=dZ.out.size;have ccZ:=rA.out.size;refine Be.out.keep (Y:=λk=>k<w.heap.size) (by simp[World.setCell]) (λk hk hx=>?_) (λk _ h=>by have h:k<w.heap.size:=h;show k<w8.heap.size;omega);have hx:¬ k<w8.heap.size:=hx;simp only[World.setCell,Array.getElem?_modify];rw[Qc (λe=>hx (by omega)),Qc (λe=>hx (by omega))]
section
variable {α:Type}
def PM(R:aDQ α)(B:Nat)(w:World)(f:FuncId)(cap:Array Value)(p:α->Bool)(xs:List α):Prop:=
 ∀ (W:World) (x:α) (e:List Value),x∈xs->Below B w W->B<=W.heap.size->R W B e x->Calls prog f (#[.agg e.toArray]++cap) W λe w'=>e = .returned (.bool (p x))/\Below W.heap.size W w'
theorem a3X{R:aDQ α}(hK:dR R)(f:FuncId)(eg:∀ args w,(callFunc f args).run prog w = .ok (.enter f args) w)(cap:Array Value)(p:α->Bool)(v:Value)(xs:List α)(w:World)(B:Nat)(hB:B<=w.heap.size)(h:SlR R 5 w B v xs)
 (hp:PM R B w f cap p xs) :
 Calls prog 149 #[v,.func (.func f) #[] cap] w (aCX w.heap.size w (.int .i64 (nu p xs))):=by
 have H:=jq h;have HP:=jq hp;obtain⟨A,c,rfl,aR,cP,cZ⟩:=h;clear cZ hp;go_enter func149,ntmps149;go_wp2_with fail;go_loopw [8] (λi wr=>∃ k:Nat,k<=xs.length/\i = .int .i64 k/\Below w.heap.size w wr/\Hid (∀ x∈xs.take k,p x=false)) (λi _=>xs.length - (intOf i).toNat)
 case atStart=>exact⟨0,jQ _,rfl,vQ _ _,jq (by simp)⟩
 case round=>
  obtain⟨k,hk,rfl,hb,HA⟩:=hrel;by_cases ag:k<xs.length
  ·have cX:=hb.mono hB;obtain⟨A',c',hA',_,_,dS⟩:=H.out.keep hK cX
   cases hA'
   obtain⟨b,o,e,rfl,cO,hlen,hce,hR⟩:=dS k _ (aQ ag)
   match e,hlen with
   | [e0,e1,e2,e3,e4],_=>
   have h0:wr.cell? ⟨b,o+k * 5,none⟩=some e0:=hce 0 _ rfl;have h1:wr.cell? ⟨b,o+k * 5+1,none⟩=some e1:=hce 1 _ rfl;have h2:wr.cell? ⟨b,o+k * 5+2,none⟩=some e2:=hce 2 _ rfl;have h3:wr.cell? ⟨b,o+k * 5+3,none⟩=some e3:=hce 3 _ rfl;have h4:wr.cell? ⟨b,o+k * 5+4,none⟩=some e4:=hce 4 _ rfl;have bw:=HP.out wr xs[k] _ (List.getElem_mem ag) cX (by have:=hb.size;omega) hR;have HC:=jq bw;have ed:=jq hb;clear dS hce hR bw cX hb;go_wp2_with (fail);refine HC.out.mono ?_;rintro e w2 ⟨rfl,ae⟩;have am:=jq ae;clear ae;by_cases bW:p xs[k]=true
   ·have HX:=jq bW;go_wp2_with (fail);go_ret;exact⟨jM (QB p xs k ag HA.out HX.out).symm,ed.out.trans (am.out.mono ed.out.size)⟩
   ·have rZ:p xs[k]=false:=by simpa using bW
    have HX:=jq rZ;clear bW;go_wp2_with (fail);go_roundw
    case rel=>
     refine⟨k+1,by omega,by go_num,ed.out.trans (am.out.mono ed.out.size),jq ?_⟩;rw[fQ ag];intro x hx;rcases List.mem_append.1 hx with h | h
     ·exact HA.out x h
     ·simp at h;subst h;exact HX.out
    case measure=>simp[intOf]<;>omega
  ·go_wp2_with fail;go_ret;exact⟨jM (QD p xs (by have:=HA.out;rwa [kQ (by omega)] at this)).symm,hb⟩
theorem Qg{R:aDQ α}(hK:dR R)(f:FuncId)(eg:∀ args w,(callFunc f args).run prog w = .ok (.enter f args) w)(cap:Array Value)(p:α->Bool)(v:Value)(xs:List α)(w:World)(B:Nat)(hB:B<=w.heap.size)(h:SlR R 5 w B v xs)
 (hp:PM R B w f cap p xs) :
 Calls prog 83 #[v,.func (.func f) #[] cap] w (aCX w.heap.size w (.bool (xs.any p))):=by
 have H:=jq h;have HP:=jq hp;have HE:=jq eg;clear h hp eg;go_enter func83,ntmps83;go_wp2_with (go_at_call 149;refine (a3X hK f HE.out cap p v xs w B hB H.out HP.out).mono ?_;rintro e w' ⟨rfl,hb⟩);go_ret;exact⟨aj (QC p xs),hb⟩
end
theorem auJ:∀ args w,(callFunc 84 args).run prog w = .ok (.enter 84 args) w:=enters_of func84 (by kernel_rfl) rfl
theorem a8K(x:Np.Signed)(e:List Value)(w:World)(hR:cr w w.heap.size)(he:az w w.heap.size e x) :
 Calls prog 84 #[.agg e.toArray] w (aCX w.heap.size w (.bool (!Np.bi x.set))):=by
 have HR:=jq hR;obtain⟨s,dA,dn,dc,gA,gn,gc,rfl,hs,aB,_,_,hd,_⟩:=kr he;have HS:=jq hs;have HD:=jq hd;clear hs hd he hR;go_enter func84,ntmps84;go_wp2_with fail;refine (sH s aB x.set.type x.set.life _ x.set.data _ ((HR.out.keep (aG w _)).more (by simp)) (HD.out.later bM bY (aG w _))).mono ?_;rintro e w2 ⟨rfl,hb⟩;have HB:=jq ((aG w _).trans (hb.mono (by simp)));rw[show (⟨s.data.toList,x.set.type,x.set.life,x.set.data⟩:Np.DSet)=x.set by rw[HS.out]];clear hb;go_wp2_with fail;go_ret;exact⟨rfl,HB.out⟩
def Np.qZ(known:List Np.Signed):Bool:=decide (known.length<=400)&&!(known.any λs=>!Np.bi s.set)
theorem a8X(kv:Value)(known:List Np.Signed)(w:World)(hR:cr w w.heap.size)(hk:SlR az 5 w w.heap.size kv known) :
 Calls prog 32 #[kv] w (aCX w.heap.size w (.bool (Np.qZ known))):=by
 have HK:=jq hk;have eS:=jq hR;obtain⟨A,N,C,rfl,hN,_,_⟩:=cE hk;have HN:=jq hN;clear hk hR hN;unfold Np.qZ;go_enter func32,ntmps32;by_cases h4:N<=400
 ·have h5:(N:Int)<=400:=by omega
  rw[uQ (by rw[HN.out];exact h4),Bool.true_and];go_wp2_with fail;refine (Qg ax 84 auJ #[] (λs:Np.Signed=>!Np.bi s.set) _ known w w.heap.size (bQ _) HK.out ?_).mono ?_
  ·intro W x e hx hW pf qu;exact a8K x e W ((eS.out.keep hW).more hW.size) (aK _ _ _ _ _ qu hW.size)
  rintro e w2 ⟨rfl,hb⟩;go_wp2_with fail;go_ret;exact⟨rfl,hb⟩
 ·have h5:¬ (N:Int)<=400:=by omega
  rw[tQ (by rw[HN.out];exact h4),Bool.false_and];go_wp2_with fail;go_ret;exact⟨rfl,vQ _ _⟩
end
end Go.Proofs.YtadhigmjilijcaaGreatDoor
