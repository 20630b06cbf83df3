/- No condition. -/
import Derived.Test.YtadhigmjilijcaaGreatDoorH14
import Derived.Test.YtadhigmjilijcaaGreatDoorH16
import Derived.Test.YtadhigmjilijcaaGreatDoorH17
set_option linter.all false
set_option maxRecDepth 100000
set_option maxHeartbeats 8000000
namespace Go.Proofs.YtadhigmjilijcaaGreatDoor
open Go.Proofs.Tryz
section
open Go.RowKit
theorem bS.formL{α:Type}{R:aDQ α}{sz:Nat}{e:TypeId}{base B:Nat}{w:World}{v:Value}{xs:List α}(h:bS R sz e base B w v xs):∃ A c,v = .slice A xs.length c:=by
 obtain⟨rows,_,h2,_⟩:=h;exact sF h2
theorem bS.setLow{α:Type}{R:aDQ α}{sz:Nat}{e:TypeId}{base B:Nat}{w:World}{v:Value}{xs:List α}(h:bS R sz e base B w v xs)(hr:∀ w' r x,R w B r x->R w' B r x){p:Addr}(hp:p.block<base)(u:Value):bS R sz e base B (w.setCell p u) v xs:=by
 obtain⟨rows,h1,h2,h3⟩:=h;exact⟨rows,h1,ownsRow_setCell_below h2 hp u,λi r x hr' hx=>⟨(h3 i r x hr' hx).1,hr _ _ _ (h3 i r x hr' hx).2⟩⟩
theorem bS.sans{α:Type}{R:aDQ α}{sz:Nat}{e:TypeId}{base B:Nat}{w:World}{v:Value}{xs:List α}(h:bS R sz e base B w v xs){M:Nat->Prop}(hM:∀ k,M k->k<base)(hr:∀ r x,R w B r x->R (cU w M) B r x):bS R sz e base B (cU w M) v xs:=by
 obtain⟨rows,h1,h2,h3⟩:=h;exact⟨rows,h1,ra h2 (λg hg=>rg (λhm=>by have:=(h2.lt g hg).1;have:=hM g hm;omega)),λi r x hr' hx=>⟨(h3 i r x hr' hx).1,hr _ _ (h3 i r x hr' hx).2⟩⟩
def G5(n:Nat)(w:World)(dv sv:Value)(d:List Np.Datum)(g:List Np.Sig):Prop:=∀ M:Nat->Prop,(∀ k,M k->k<n)->SlR cm 3 (cU w M) w.heap.size dv d/\SlR en 6 (cU w M) w.heap.size sv g
theorem P6(s:ByteArray)(ty life:Int)(dv:Value)(d:List Np.Datum)(sv:Value)(g:List Np.Sig)(xB:d.length<=1000000)(nE:g.length<=1000000)(w:World)(hd:SlR cm 3 w w.heap.size dv d)(hg:SlR en 6 w w.heap.size sv g) :
 Calls prog 38 #[.agg #[.string s,.int .i64 ty,.int .i64 life,dv,sv]] w λe w'=>∃ dv' sv',e = .returned (.agg #[.string s,.int .i64 ty,.int .i64 life,dv',sv'])/\G5 w.heap.size w' dv' sv' d g/\Below w.heap.size w w':=by
 have HD:=jq hd;have HG:=jq hg;obtain⟨A1,c1,rfl,_,_⟩:=ba hd;obtain⟨A2,c2,rfl,_,_⟩:=ba hg;clear hd hg;obtain⟨n1,CZ⟩:=aaK d.length;obtain⟨n2,mb⟩:=aaK g.length;rw[CZ] at HD |-;rw[mb] at HG |-;clear CZ mb;obtain⟨w1,ah⟩:=aaK ((w.alloc (.cells #[.string s,.int .i64 ty,.int .i64 life,.slice A1 n1 c1,.slice A2 n2 c2] 44)).alloc (.cells #[.string ⟨#[]⟩,.int .i64 0,.int .i64 0,.slice none 0 0,.slice none 0 0] 44));have ay:Hid (Below w.heap.size w w1):=jq (by rw[<-ah];exact (blAl).alloc (by simp) _);have bG:w1.heap.size=w.heap.size+2:=by rw[<-ah];simp
 obtain⟨X,hX⟩:=aaK w.heap.size;obtain⟨Y,hY⟩:=aaK (X+1);obtain⟨k0,k1,k2,k3,k4⟩:=cRow5 w1 X (.string s) (.int .i64 ty) (.int .i64 life) (.slice A1 n1 c1) (.slice A2 n2 c2) (by rw[<-ah,<-hX];simp[go_sem]);have kf3:w1.frozen? ⟨X,3,none⟩=false:=by rw[<-ah,<-hX];simp[go_sem]
 have kf4:w1.frozen? ⟨X,4,none⟩=false:=by rw[<-ah,<-hX];simp[go_sem]
 have F8:w1.heap[Y]?=some (.cells #[.string ⟨#[]⟩,.int .i64 0,.int .i64 0,.slice none 0 0,.slice none 0 0] 44):=by
  rw[<-ah,<-hY,<-hX]
  have:=heap_alloc_new (w.alloc (.cells #[.string s,.int .i64 ty,.int .i64 life,.slice A1 n1 c1,.slice A2 n2 c2] 44)) (.cells #[.string ⟨#[]⟩,.int .i64 0,.int .i64 0,.slice none 0 0,.slice none 0 0] 44)
  simpa using this
 have Jg:=jq hX;go_enter func38,ntmps38;go_wp2_with fail;rw[hX] at HD HG ay bG;clear ah hX;refine (P4 _ d xB _ ((HD.out.keep bM ay.out).more bY (by omega))).mono ?_;rintro e w2 ⟨v2,rfl,qL,ae⟩;have bL:=ae.size;replace k0:=aaQ ae k0;replace k1:=aaQ ae k1;replace k2:=aaQ ae k2;replace k3:=aaQ ae k3;replace k4:=aaQ ae k4;replace kf3:=(ae.frozen (p:=⟨X,3,none⟩) (by dsimp only;omega)).trans kf3;replace kf4:=(ae.frozen (p:=⟨X,4,none⟩) (by dsimp only;omega)).trans kf4;replace F8:=(ae.block Y (by omega)).trans F8;have By:=jq qL;have am:=aaZ ay ae;obtain⟨A3,c3,rfl⟩:=qL.formL;clear qL ae;obtain⟨n3,tI⟩:=aaK d.length;rw[tI] at By |-;obtain⟨w3,bT⟩:=aaK (w2.setCell ⟨X,3,none⟩ (.slice A3 n3 c3));have mh:w3.heap.size=w2.heap.size:=by rw[<-bT];simp
 have aw:Hid (Below X w w3):=jq (by rw[<-bT];exact am.out.setCell (bQ _) _);have EC:Hid (bS cm 3 75 w1.heap.size w1.heap.size w3 (.slice A3 n3 c3) d):=jq (by rw[<-bT];exact By.out.setLow (λ_ _ _ h=>h) (by dsimp only;omega) _);have j0:w3.cell? ⟨X,0,none⟩=some (.string s):=by rw[<-bT];exact (xQ _ _ _ _ (by simp)).trans k0
 have j1:w3.cell? ⟨X,1,none⟩=some (.int .i64 ty):=by rw[<-bT];exact (xQ _ _ _ _ (by simp)).trans k1
 have j2:w3.cell? ⟨X,2,none⟩=some (.int .i64 life):=by rw[<-bT];exact (xQ _ _ _ _ (by simp)).trans k2
 have j3:w3.cell? ⟨X,3,none⟩=some (.slice A3 n3 c3):=by rw[<-bT];exact World.cell?_setCell_same _ _ _ k3
 have j4:w3.cell? ⟨X,4,none⟩=some (.slice A2 n2 c2):=by rw[<-bT];exact (xQ _ _ _ _ (by simp)).trans k4
 have jf4:w3.frozen? ⟨X,4,none⟩=false:=by rw[<-bT];exact (World.frozen?_setCell _ _ _ _).trans kf4
 have jobj:=(wQ w2 ⟨X,3,none⟩ (.slice A3 n3 c3) Y (by dsimp only;omega)).trans F8;rw[bT] at jobj;go_wp2_with fail;clear bT k0 k1 k2 k3 k4 kf3 kf4 F8;refine (P5 _ g nE _ ((HG.out.keep dG aw.out).more el (by omega))).mono ?_;rintro e w4 ⟨v4,rfl,tN,aE⟩;have pw:=aE.size;replace j0:=aaQ aE j0;replace j1:=aaQ aE j1;replace j2:=aaQ aE j2;replace j3:=aaQ aE j3;replace j4:=aaQ aE j4;replace jf4:=(aE.frozen (p:=⟨X,4,none⟩) (by dsimp only;omega)).trans jf4;replace jobj:=(aE.block Y (by omega)).trans jobj;have wm:=jq tN;have sR:=jq (EC.out.keep bM aE (by omega));have aX:=aaZ aw aE;obtain⟨A4,c4,rfl⟩:=tN.formL;clear tN aE;obtain⟨n4,Sr⟩:=aaK g.length;rw[Sr] at wm |-;obtain⟨w5,aS⟩:=aaK (w4.setCell ⟨X,4,none⟩ (.slice A4 n4 c4));have qU:w5.heap.size=w4.heap.size:=by rw[<-aS];simp
 have bx:Hid (Below X w w5):=jq (by rw[<-aS];exact aX.out.setCell (bQ _) _);have yT:Hid (bS en 6 56 w3.heap.size w3.heap.size w5 (.slice A4 n4 c4) g):=jq (by rw[<-aS];exact wm.out.setLow (λ_ _ _ h=>h) (by dsimp only;omega) _);have Yj:Hid (bS cm 3 75 w1.heap.size w1.heap.size w5 (.slice A3 n3 c3) d):=jq (by rw[<-aS];exact sR.out.setLow (λ_ _ _ h=>h) (by dsimp only;omega) _);have m0:w5.cell? ⟨X,0,none⟩=some (.string s):=by rw[<-aS];exact (xQ _ _ _ _ (by simp)).trans j0
 have m1:w5.cell? ⟨X,1,none⟩=some (.int .i64 ty):=by rw[<-aS];exact (xQ _ _ _ _ (by simp)).trans j1
 have m2:w5.cell? ⟨X,2,none⟩=some (.int .i64 life):=by rw[<-aS];exact (xQ _ _ _ _ (by simp)).trans j2
 have m3:w5.cell? ⟨X,3,none⟩=some (.slice A3 n3 c3):=by rw[<-aS];exact (xQ _ _ _ _ (by simp)).trans j3
 have m4:w5.cell? ⟨X,4,none⟩=some (.slice A4 n4 c4):=by rw[<-aS];exact World.cell?_setCell_same _ _ _ j4
 have mobj:=(wQ w4 ⟨X,4,none⟩ (.slice A4 n4 c4) Y (by dsimp only;omega)).trans jobj;rw[aS] at mobj;have y0:w5.cell? ⟨Y,0,none⟩=some (.string ⟨#[]⟩):=by simp[World.cell?,mobj]
 have z0:w5.frozen? ⟨Y,0,none⟩=false:=by simp[World.frozen?,mobj]
 have y1:w5.cell? ⟨Y,1,none⟩=some (.int .i64 0):=by simp[World.cell?,mobj]
 have z1:w5.frozen? ⟨Y,1,none⟩=false:=by simp[World.frozen?,mobj]
 have y2:w5.cell? ⟨Y,2,none⟩=some (.int .i64 0):=by simp[World.cell?,mobj]
 have z2:w5.frozen? ⟨Y,2,none⟩=false:=by simp[World.frozen?,mobj]
 have y3:w5.cell? ⟨Y,3,none⟩=some (.slice none 0 0):=by simp[World.cell?,mobj]
 have z3:w5.frozen? ⟨Y,3,none⟩=false:=by simp[World.frozen?,mobj]
 have y4:w5.cell? ⟨Y,4,none⟩=some (.slice none 0 0):=by simp[World.cell?,mobj]
 have z4:w5.frozen? ⟨Y,4,none⟩=false:=by simp[World.frozen?,mobj]
 go_wp2_with fail;obtain⟨W,hW⟩:=aaK (((((w5.setCell ⟨Y,0,none⟩ (.string s)).setCell ⟨Y,1,none⟩ (.int .i64 ty)).setCell ⟨Y,2,none⟩ (.int .i64 life)).setCell ⟨Y,3,none⟩ (.slice A3 n3 c3)).setCell ⟨Y,4,none⟩ (.slice A4 n4 c4));have Yn:Hid (bS cm 3 75 w1.heap.size w1.heap.size W (.slice A3 n3 c3) d):=jq (by rw[<-hW];exact (((((Yj.out.setLow (λ_ _ _ h=>h) (by dsimp only;omega) _).setLow (λ_ _ _ h=>h) (by dsimp only;omega) _).setLow (λ_ _ _ h=>h) (by dsimp only;omega) _).setLow (λ_ _ _ h=>h) (by dsimp only;omega) _).setLow (λ_ _ _ h=>h) (by dsimp only;omega) _));have ur:Hid (bS en 6 56 w3.heap.size w3.heap.size W (.slice A4 n4 c4) g):=jq (by rw[<-hW];exact (((((yT.out.setLow (λ_ _ _ h=>h) (by dsimp only;omega) _).setLow (λ_ _ _ h=>h) (by dsimp only;omega) _).setLow (λ_ _ _ h=>h) (by dsimp only;omega) _).setLow (λ_ _ _ h=>h) (by dsimp only;omega) _).setLow (λ_ _ _ h=>h) (by dsimp only;omega) _));have bN:Hid (Below X w W):=jq (by rw[<-hW];exact (((((bx.out.blSe _).blSe _).blSe _).blSe _).blSe _));have hzW:W.heap.size=w5.heap.size:=by rw[<-hW];simp
 have e0:W.cell? ⟨Y,0,none⟩=some (.string s):=by rw[<-hW];simp[go_sem,y0]
 have e1:W.cell? ⟨Y,1,none⟩=some (.int .i64 ty):=by rw[<-hW];simp[go_sem,y1]
 have e2:W.cell? ⟨Y,2,none⟩=some (.int .i64 life):=by rw[<-hW];simp[go_sem,y2]
 have e3:W.cell? ⟨Y,3,none⟩=some (.slice A3 n3 c3):=by rw[<-hW];simp[go_sem,y3]
 have e4:W.cell? ⟨Y,4,none⟩=some (.slice A4 n4 c4):=by rw[<-hW];simp[go_sem,y4]
 rw[hW];refine bodyPost_ret (v:=.agg #[.string s,.int .i64 ty,.int .i64 life,.slice A3 n3 c3,.slice A4 n4 c4]) ?_ rfl ⟨_,_,rfl,λM hM=>?_,by rw[Jg.out];exact bN.out⟩
 ·simp[results,results38,go_sem,e0,e1,e2,e3,e4]
 ·have h1:=(Yn.out.sans (M:=M) (λk hk=>by have:=hM k hk;have:=Jg.out;omega) (λ_ _ h=>h)).slr bY (by rw[oK];omega) (by omega);have h2:=(ur.out.sans (M:=M) (λk hk=>by have:=hM k hk;have:=Jg.out;omega) (λ_ _ h=>h)).slr el (by rw[oK];omega) (by omega);rw[oK] at h1 h2;exact⟨h1,h2⟩
def kz(known:List Np.Signed)(w:World)(B:Nat)(kvs:List ((List UInt8×Int)×Value)):Prop:=
 ∀ n t,(Np.fS known n t=none->kvs.lookup (n,t)=none)/\(∀ s,Np.fS known n t=some s->∃ e:List Value,kvs.lookup (n,t)=some (.agg e.toArray)/\az w B e s)
theorem kz.keep{known:List Np.Signed}{w w':World}{B:Nat}{kvs:List ((List UInt8×Int)×Value)}(h:kz known w B kvs)(hb:Below B w w'):kz known w' B kvs:=
 λn t=>⟨(h n t).1,λs hs=>by obtain⟨e,h1,h2⟩:=(h n t).2 s hs;exact⟨e,h1,ax _ _ _ _ _ h2 hb⟩⟩
theorem Np.Qk(l:List Np.Signed)(x:Np.Signed)(n:List UInt8)(t:Int):Np.fS (l ++ [x]) n t=(Np.fS l n t).or (if (x.set.name == n&&decide (x.set.type=t))&&Np.cx x != [] then some x else none):=by
 unfold Np.fS;rw[List.find?_append];congr 1;simp only[List.find?_cons,List.find?_nil];split<;>simp_all
theorem kz.skip{l:List Np.Signed}{x:Np.Signed}{w:World}{B:Nat}{kvs:List ((List UInt8×Int)×Value)}(h:kz l w B kvs)(hx:Np.cx x = []\/(Np.fS l x.set.name x.set.type).isSome):kz (l ++ [x]) w B kvs:=by
 intro n t;have he:Np.fS (l ++ [x]) n t=Np.fS l n t:=by
  rw[Np.Qk];by_cases hm:((x.set.name == n&&decide (x.set.type=t))&&Np.cx x != [])=true
  ·rw[QbQ hm];simp only[Bool.and_eq_true,beq_iff_eq,Qa,bne_iff_ne] at hm;obtain⟨⟨rfl,rfl⟩,h3⟩:=hm;rcases hx with hx | hx
   ·exact absurd hx h3
   ·obtain⟨y,hy⟩:=Option.isSome_iff_exists.1 hx;rw[hy];rfl
  ·rw[Qc hm,Option.or_none]
 rw[he];exact h n t
theorem kz.add{l:List Np.Signed}{x:Np.Signed}{w:World}{B:Nat}{kvs:List ((List UInt8×Int)×Value)}(h:kz l w B kvs)(hx:Np.cx x≠[])(_:Np.fS l x.set.name x.set.type=none){e:List Value}(he:az w B e x):kz (l ++ [x]) w B (kvs ++ [((x.set.name,x.set.type),.agg e.toArray)]):=by
 intro n t;rw[Np.Qk,List.lookup_append]
 cases hc:Np.fS l n t with
 | some s=>
  refine⟨λh0=>by simp at h0,λs' hs=>?_⟩;simp only[Option.some_or,Option.some.injEq] at hs;subst hs;obtain⟨e',h1,h2⟩:=(h n t).2 s hc;exact⟨e',by rw[h1];rfl,h2⟩
 | none=>
  rw[(h n t).1 hc,Option.none_or,Option.none_or];by_cases hm:((x.set.name == n&&decide (x.set.type=t))&&Np.cx x != [])=true
  ·rw[QbQ hm];simp only[Bool.and_eq_true,beq_iff_eq,Qa,bne_iff_ne] at hm;obtain⟨⟨rfl,rfl⟩,h3⟩:=hm;refine⟨λh0=>by simp at h0,λs hs=>?_⟩
   cases hs
   exact⟨e,by rw[List.lookup_cons_self],he⟩
  ·rw[Qc hm];refine⟨λ_=>?_,λs hs=>by cases hs⟩;have hne:((n,t) == (x.set.name,x.set.type))=false:=by
    rw[beq_eq_false_iff_ne];intro e0;simp only[Prod.mk.injEq] at e0;obtain⟨rfl,rfl⟩:=e0;exact hm (by simp[hx])
   rw[List.lookup_cons,hne];rfl
def VM(known:List Np.Signed)(B:Nat)(w:World)(e:Ending)(w':World):Prop:=
 ∃ (r:Nat) (kvs:List ((List UInt8×Int)×Value)),e = .returned (.map (some r))/\w.heap.size<=r/\r<w'.heap.size/\fB r kvs w'/\kz known w' B kvs/\Below w.heap.size w w'
theorem Qj(kv:Value)(known:List Np.Signed)(w:World)(B:Nat)(hB:B<=w.heap.size)(hk:SlR az 5 w B kv known)(fZ:known.length<=1000) :
 Calls prog 35 #[kv] w (VM known B w):=by
 have HK:=jq hk;obtain⟨A,N,C,rfl,hN,hNc,_⟩:=cE hk;have HN:=jq hN;have Ro:N<=1000:=by omega
 have pk:∀ (w:World),(Instr.makeMap 77 none).run prog w = .ok (.map (some w.heap.size)) (w.alloc (.map #[] 0)):=λw=>by
  simp[Instr.makeMap,Result.andThen]
 clear hk hN fZ;go_enter func35,ntmps35;go_wp2_with fail;clear pk;go_loopw [12] (λi wr=>∃ k:Nat,k<=N/\i = .int .i64 k/\w.heap.size<wr.heap.size/\Hid (Below w.heap.size w wr)/\∃ kvs,Hid (fB w.heap.size kvs wr)/\Hid (kz (known.take k) wr B kvs)) (λi _=>N - (intOf i).toNat)
 case atStart=>exact⟨0,jQ _,rfl,by simp,jq (aG _ _),[],jq (fB.made w),jq (λn t=>⟨λ_=>rfl,λs hs=>by simp[Np.fS] at hs⟩)⟩
 case round=>
  obtain⟨k,hk,rfl,aB,HB,kvs,HM,HC⟩:=hrel;obtain⟨ws,rfl⟩:=aaX wr;by_cases ag:k<N
  ·obtain⟨x,fl⟩:∃ x,known[k]?=some x:=⟨_,aQ (by rw[HN.out];exact ag)⟩;obtain⟨b,o,c2,s,dv,sv,hA,cO,_,aP,dM,aV,aZ,e0,e1,e2,e3,e4⟩:=dN (HK.out.keep ax (HB.out.mono hB)) fl;simp only[Value.slice.injEq] at hA;obtain⟨rfl,-,rfl⟩:=hA;obtain⟨dA,dn,dc,rfl,_,_,_⟩:=cE aV;obtain⟨gA,gn,gc,rfl,_,_,_⟩:=cE aZ;have bU:=jq aP;have pV:=jq aZ;have YP:Hid (az ws B [.string s,.int .i64 x.set.type,.int .i64 x.set.life,.slice dA dn dc,.slice gA gn gc] x):=jq ⟨s,_,_,aP,dM,aV,aZ,rfl⟩;have jU:Hid (known.take (k+1)=known.take k ++ [x]):=jq (by
    obtain⟨hl,he⟩:=cQ.1 fl;rw[fQ hl,he])
   have df:=kNN k;have dg:(k:Int)<(N:Int):=by omega
   obtain⟨w5,aS⟩:=aaK (ws.alloc (.cells #[.string s,.int .i64 x.set.type,.int .i64 x.set.life,.slice dA dn dc,.slice gA gn gc] 44));obtain⟨w6,cS⟩:=aaK (w5.alloc (.cells #[.string s,.int .i64 x.set.type] 27));have aO:Below ws.heap.size ws w5:=by rw[<-aS];exact aG _ _
   have bE:Below w5.heap.size w5 w6:=by rw[<-cS];exact aG _ _
   have l5:ws.heap.size<w5.heap.size:=by rw[<-aS];simp
   have l6:w5.heap.size<w6.heap.size:=by rw[<-cS];simp
   have p5:=de (r:=[.string s,.int .i64 x.set.type,.int .i64 x.set.life,.slice dA dn dc,.slice gA gn gc]) rfl aS;have p6:=de (r:=[.string s,.int .i64 x.set.type]) rfl cS;have bH:=jq (aO.trans (bE.abQ));have Bu:=jq (HM.out.keep bH.out aB);have kJ:Hid (∀ wz,Below w6.heap.size w6 wz->∀ (j:Nat) u,[Value.string s,.int .i64 x.set.type,.int .i64 x.set.life,.slice dA dn dc,.slice gA gn gc][j]?=some u->wz.cell? ⟨ws.heap.size,j,none⟩=some u):=jq (λwz hb j u hj=>aaQ hb ((cl bE (by omega)).trans (p5 j u hj)));have ta:Hid (∀ wz,Below w6.heap.size w6 wz->∀ (j:Nat) u,[Value.string s,.int .i64 x.set.type][j]?=some u->wz.cell? ⟨w5.heap.size,j,none⟩=some u):=jq (λwz hb j u hj=>aaQ hb (p6 j u hj));have hz:(zeroValue 44).run prog w6 = .ok (.agg #[.string ⟨#[]⟩,.int .i64 0,.int .i64 0,.slice none 0 0,.slice none 0 0]) w6:=zeroValue44 w6;have ep:=DL w6 77 44 underlying77 w.heap.size kvs Bu.out (s.data.toList,x.set.type) _ hz;rw[Al,aP] at ep;have a0:=p5 0 _ rfl;have a1:=p5 1 _ rfl;have a2:=p5 2 _ rfl;have a3:=p5 3 _ rfl;have a4:=p5 4 _ rfl;have a0':=kJ.out w6 (vQ _ _) 0 _ rfl;have a1':=kJ.out w6 (vQ _ _) 1 _ rfl;have q0:=ta.out w6 (vQ _ _) 0 _ rfl;have q1:=ta.out w6 (vQ _ _) 1 _ rfl;have tb:=jq fl;have nC:=HC.out x.set.name x.set.type
   cases gP:Np.fS (known.take k) x.set.name x.set.type with
   | some y=>
    obtain⟨e',cZ,gG⟩:=nC.2 y gP;obtain⟨ys,ydA,ydn,ydc,ygA,ygn,ygc,rfl,_,_,_,_,_,_⟩:=kr gG;have pN:Hid ((Np.fS (known.take k) x.set.name x.set.type).isSome=true):=jq (by rw[gP];rfl);rw[cZ,Option.getD_some,Option.isSome_some] at ep;clear nC gP cZ gG fl aP aV aZ hz p5 p6;go_wp2_with fail;clear aS;go_wp2_with fail;clear cS;go_wp2_with fail;go_roundw
    case rel=>exact⟨k+1,by omega,by go_num,by simp;omega,jq (HB.out.trans ((bH.out.mono HB.out.size).trans ((aG w6 _).mono (by have:=HB.out.size;omega)))),kvs,jq (Bu.out.keep (aG w6 _) (by omega)),jq (by
     rw[jU.out];exact (HC.out.keep (bH.out.trans ((aG w6 _).abQ) |>.abQ)).skip (.inr pN.out))⟩
    case measure=>simp[intOf]<;>omega
   | none=>
    have pN:=jq gP;rw[nC.1 gP,Option.getD_none,Option.isSome_none] at ep;clear nC gP fl aP aV aZ hz p5 p6;have g0:=kJ.out w6 (vQ _ _) 0 _ rfl;have g1:=kJ.out w6 (vQ _ _) 1 _ rfl;have g2:=kJ.out w6 (vQ _ _) 2 _ rfl;have g3:=kJ.out w6 (vQ _ _) 3 _ rfl;have g4:=kJ.out w6 (vQ _ _) 4 _ rfl;have l56:ws.heap.size<w6.heap.size:=by omega
    go_wp2_with fail;clear aS;go_wp2_with fail;clear cS;go_wp2_with fail;clear a0' a1' q0 q1 g0 g1 g2 g3 g4 ep;obtain⟨w7,ko⟩:=aaK (w6.alloc (.cells #[.string ⟨#[]⟩,.int .i64 0,.int .i64 0,.slice none 0 0,.slice none 0 0] 44));have bF:Below w6.heap.size w6 w7:=by rw[<-ko];exact aG _ _
    rw[ko];clear ko;refine (UQ s x.set.type x.set.life _ _ x.sigs x.set w7 ((pV.out.keep dG ((bH.out.trans (bF.abQ)).abQ)).more el (by have:=bF.size;omega))).mono ?_;rintro e w8 ⟨c,rfl,⟨hc,_⟩,cA⟩;have dZ:=jq (bF.trans (cA.mono bF.size));have EB:=jq (Bu.out.keep dZ.out (by omega));have bN:Hid (Below w.heap.size ws w8):=jq ((bH.out.trans (dZ.out.abQ)).abQ);have l8:w6.heap.size<=w8.heap.size:=dZ.out.size;have g0:=kJ.out w8 dZ.out 0 _ rfl;have g1:=kJ.out w8 dZ.out 1 _ rfl;have g2:=kJ.out w8 dZ.out 2 _ rfl;have g3:=kJ.out w8 dZ.out 3 _ rfl;have g4:=kJ.out w8 dZ.out 4 _ rfl;have q0:=ta.out w8 dZ.out 0 _ rfl;have q1:=ta.out w8 dZ.out 1 _ rfl;have BI:Hid (c.data.toList=Np.cx x):=jq hc;clear bF cA hc;by_cases uN:c.data.toList = []
    ·have aR:(c.toList == [])=true:=by rw[dQ,uN];rfl
     have lB:Hid (Np.cx x = []):=jq (by rw[<-BI.out];exact uN);clear uN;go_wp2_with fail;go_roundw
     case rel=>exact⟨k+1,by omega,by go_num,by omega,jq (HB.out.trans bN.out),kvs,EB,jq (by rw[jU.out];exact (HC.out.keep (bN.out.mono hB)).skip (.inl lB.out))⟩
     ·simp[intOf]<;>omega
    ·have aR:(c.toList == [])=false:=by rw[dQ];simpa using uN
     have lB:Hid (Np.cx x≠[]):=jq (by rw[<-BI.out];exact uN);have lG:=jq ((HC.out x.set.name x.set.type).1 pN.out);clear uN;go_wp2_with (at_mapUpdate;refine Vw w8 rfl _ _ _ 77 rfl 44 underlying77 w.heap.size kvs rfl EB.out (x.set.name,x.set.type) (by rw[<-bU.out,Al];rfl) (.agg #[.string s,.int .i64 x.set.type,.int .i64 x.set.life,.slice dA dn dc,.slice gA gn gc]) rfl lG.out ?_;intro w9 CY Dj;have IB:=jq CY;have zd:=jq Dj;clear CY Dj);have cW:Below w.heap.size w8 w9:=zd.out.below (bQ _);go_roundw
     case rel=>exact⟨k+1,by omega,by go_num,by have:=cW.size;omega,jq ((HB.out.trans bN.out).trans cW),_,IB,jq (by
      rw[jU.out];exact (HC.out.keep ((bN.out.trans cW).mono hB)).add lB.out pN.out (ax _ _ _ _ _ YP.out ((bN.out.trans cW).mono hB)))⟩
     case measure=>simp[intOf]<;>omega
  ·obtain rfl:k=N:=by omega
   have HE:Hid (kz known ws B kvs):=jq (by have:=HC.out;rwa [kQ (by rw[HN.out];omega)] at this);go_wp2_with fail;go_ret;exact⟨w.heap.size,kvs,rfl,bQ _,aB,HM.out,HE.out,HB.out⟩
def sB(kv:Value)(r:Nat)(an:ByteArray)(aty al:Int)(adv:Value)(at' dr:Int):Value:=.agg #[kv,.map (some r),.string an,.int .i64 aty,.int .i64 al,adv,.int .i64 at',.int .i64 dr]
def Hb(B:Nat)(o:Option Np.Signed)(w:World)(e:Ending)(w':World):Prop:=
 ∃ (s:ByteArray) (a b:Int) (dA:Option Addr) (dn dc:Nat) (gA:Option Addr) (gn gc:Nat),e = .returned (.tuple #[.agg #[.string s,.int .i64 a,.int .i64 b,.slice dA dn dc,.slice gA gn gc],.bool o.isSome])/\Below w.heap.size w w'/\
   (∀ x,o=some x->az w' B [.string s,.int .i64 a,.int .i64 b,.slice dA dn dc,.slice gA gn gc] x)
theorem JO{w w':World}{N:Nat}{p:Nat}(h:Below N w w')(hp:N<=p)(v0 v1 v2 v3 v4:Value):Below N w (((((w'.setCell ⟨p,0,none⟩ v0).setCell ⟨p,1,none⟩ v1).setCell ⟨p,2,none⟩ v2).setCell ⟨p,3,none⟩ v3).setCell ⟨p,4,none⟩ v4):=
 ((((h.setCell (p:=⟨p,0,none⟩) hp _).setCell (p:=⟨p,1,none⟩) hp _).setCell (p:=⟨p,2,none⟩) hp _).setCell (p:=⟨p,3,none⟩) hp _).setCell (p:=⟨p,4,none⟩) hp _
theorem ahY(kv adv:Value)(known:List Np.Signed)(r:Nat)(kvs:List ((List UInt8×Int)×Value))(an n:ByteArray)(aty al at' dr t:Int)(w:World)(B:Nat)(hB:B<=w.heap.size)(hk:∃ A n c,kv = .slice A n c)(ha:∃ A n c,adv = .slice A n c)(hr:r<w.heap.size)(hm:fB r kvs w)(hc:kz known w B kvs) :
 Calls prog 91 #[sB kv r an aty al adv at' dr,.agg #[.string n,.int .i64 t]] w (Hb B (Np.rG known n.data.toList t) w):=by
 obtain⟨A,N,C,rfl⟩:=hk;obtain⟨aA,aN,aC,rfl⟩:=ha;unfold sB;obtain⟨w1,ah⟩:=aaK (w.alloc (.cells #[.slice A N C,.map (some r),.string an,.int .i64 aty,.int .i64 al,.slice aA aN aC,.int .i64 at',.int .i64 dr] 80));obtain⟨w2,ar⟩:=aaK (w1.alloc (.cells #[.string n,.int .i64 t] 27));obtain⟨w3,bT⟩:=aaK (w2.alloc (.cells #[.string ⟨#[]⟩,.int .i64 0,.int .i64 0,.slice none 0 0,.slice none 0 0] 44));have z1:w1.heap.size=w.heap.size+1:=by rw[<-ah];simp
 have z2:w2.heap.size=w.heap.size+1+1:=by rw[<-ar];simp[z1]
 have z3:w3.heap.size=w.heap.size+1+1+1:=by rw[<-bT];simp[z2]
 have ae:Below w1.heap.size w1 w2:=by rw[<-ar];exact aG _ _
 have aq:Below w2.heap.size w2 w3:=by rw[<-bT];exact aG _ _
 have aw:Hid (Below w.heap.size w w3):=jq ((by rw[<-ah];exact aG _ _:Below w.heap.size w w1).trans ((ae.abQ).trans (aq.abQ)));have p1:=de (r:=[.slice A N C,.map (some r),.string an,.int .i64 aty,.int .i64 al,.slice aA aN aC,.int .i64 at',.int .i64 dr]) rfl ah;have p2:=de (r:=[.string n,.int .i64 t]) rfl ar;have p3:=de (r:=[.string ⟨#[]⟩,.int .i64 0,.int .i64 0,.slice none 0 0,.slice none 0 0]) rfl bT;rw[z1] at p2;rw[z2] at p3;have j1:w3.cell? ⟨w.heap.size,1,none⟩=some (.map (some r)):=aaQ aq ((cl ae (by omega)).trans (p1 1 _ rfl));have q0:w3.cell? ⟨w.heap.size+1,0,none⟩=some (.string n):=aaQ aq (p2 0 _ rfl);have q1:w3.cell? ⟨w.heap.size+1,1,none⟩=some (.int .i64 t):=aaQ aq (p2 1 _ rfl);have r0:=p3 0 _ rfl;have r1:=p3 1 _ rfl;have r2:=p3 2 _ rfl;have r3:=p3 3 _ rfl;have r4:=p3 4 _ rfl;have fr:∀ i,w3.frozen? ⟨w.heap.size+1+1,i,none⟩=false:=λi=>by
  have:=heap_alloc_new w2 (.cells #[.string ⟨#[]⟩,.int .i64 0,.int .i64 0,.slice none 0 0,.slice none 0 0] 44)
  rw[bT,z2] at this;simp[World.frozen?,this]
 have gj:=jq (hc.keep (aw.out.mono hB));have IA:=jq (hm.keep aw.out hr);obtain⟨O,hO⟩:=aaK (Np.rG known n.data.toList t);rw[hO];have HO:=jq hO;clear hO ae aq p1 p2 p3 hc hm;go_enter func91,ntmps91;have done:∀ (s:ByteArray) (a b:Int) (dA:Option Addr) (dn dc:Nat) (gA:Option Addr) (gn gc:Nat) (W:World),Below w.heap.size w3 W->(∀ x,O=some x->az W B [.string s,.int .i64 a,.int .i64 b,.slice dA dn dc,.slice gA gn gc] x)->
  Hb B O w (.returned (.tuple #[.agg #[.string s,.int .i64 a,.int .i64 b,.slice dA dn dc,.slice gA gn gc],.bool O.isSome])) (((((W.setCell ⟨w.heap.size+1+1,0,none⟩ (.string s)).setCell ⟨w.heap.size+1+1,1,none⟩ (.int .i64 a)).setCell ⟨w.heap.size+1+1,2,none⟩ (.int .i64 b)).setCell ⟨w.heap.size+1+1,3,none⟩ (.slice dA dn dc)).setCell ⟨w.heap.size+1+1,4,none⟩ (.slice gA gn gc)):=by
  intro s a b dA dn dc gA gn gc W hW hx;have h5:=JO (p:=w.heap.size+1+1) (vQ (w.heap.size) W) (by omega) (.string s) (.int .i64 a) (.int .i64 b) (.slice dA dn dc) (.slice gA gn gc);exact⟨s,a,b,dA,dn,dc,gA,gn,gc,rfl,(aw.out.trans hW).trans h5,λx h=>ax _ _ _ _ _ (hx x h) (h5.mono hB)⟩
 have HD:=jq done;have Nt:Hid (∀ (s:ByteArray) (a b:Int) (dA:Option Addr) (dn dc:Nat) (gA:Option Addr) (gn gc:Nat) (ob:Obj),(∀ x,O=some x->az w3 B [.string s,.int .i64 a,.int .i64 b,.slice dA dn dc,.slice gA gn gc] x)->
  Hb B O w (.returned (.tuple #[.agg #[.string s,.int .i64 a,.int .i64 b,.slice dA dn dc,.slice gA gn gc],.bool O.isSome])) ((((((w3.setCell ⟨w.heap.size+1+1,0,none⟩ (.string s)).setCell ⟨w.heap.size+1+1,1,none⟩ (.int .i64 a)).setCell ⟨w.heap.size+1+1,2,none⟩ (.int .i64 b)).setCell ⟨w.heap.size+1+1,3,none⟩ (.slice dA dn dc)).setCell ⟨w.heap.size+1+1,4,none⟩ (.slice gA gn gc)).alloc ob)):=jq (by
  intro s a b dA dn dc gA gn gc ob hx;have h5:=(JO (p:=w.heap.size+1+1) (vQ (w.heap.size) w3) (by omega) (.string s) (.int .i64 a) (.int .i64 b) (.slice dA dn dc) (.slice gA gn gc)).alloc (by simp only[World.setCell,Array.size_modify];omega) ob;exact⟨s,a,b,dA,dn,dc,gA,gn,gc,rfl,aw.out.trans h5,λx h=>ax _ _ _ _ _ (hx x h) (h5.mono hB)⟩)
 have l3:w.heap.size+1+1<w3.heap.size:=by omega
 clear done;by_cases h3:t=3
 ·have h3':(t == 3)=true:=by simpa using h3
  have HE:Hid (O=none):=jq (by rw[<-HO.out,Np.rG,QbQ (.inl h3)]);clear h3;go_wp2_with fail;clear ah ar bT;go_wp2_with fail;refine bodyPost_ret (v:=.tuple #[.agg #[.string ⟨#[]⟩,.int .i64 0,.int .i64 0,.slice none 0 0,.slice none 0 0],.bool false]) (by simp[results,results91,go_sem,r0,r1,r2,r3,r4]) rfl ?_
  have:=HD.out ⟨#[]⟩ 0 0 none 0 0 none 0 0 w3 (vQ _ _) (λx h=>by rw[HE.out] at h;cases h)
  rw[HE.out] at this |-;exact this
 have h3':(t == 3)=false:=by simpa using h3
 by_cases h8:t=8
 ·have h8':(t == 8)=true:=by simpa using h8
  have HE:Hid (O=none):=jq (by rw[<-HO.out,Np.rG,QbQ (.inr h8)]);clear h3 h8;go_wp2_with fail;clear ah ar bT;go_wp2_with fail;refine bodyPost_ret (v:=.tuple #[.agg #[.string ⟨#[]⟩,.int .i64 0,.int .i64 0,.slice none 0 0,.slice none 0 0],.bool false]) (by simp[results,results91,go_sem,r0,r1,r2,r3,r4]) rfl ?_
  have:=HD.out ⟨#[]⟩ 0 0 none 0 0 none 0 0 w3 (vQ _ _) (λx h=>by rw[HE.out] at h;cases h)
  rw[HE.out] at this |-;exact this
 have h8':(t == 8)=false:=by simpa using h8
 have HE:Hid (Np.fS known n.data.toList 3=O):=jq (by rw[<-HO.out,Np.rG,Qc (by rintro (h | h);exact h3 h;exact h8 h)]);have hz:(zeroValue 44).run prog w3 = .ok (.agg #[.string ⟨#[]⟩,.int .i64 0,.int .i64 0,.slice none 0 0,.slice none 0 0]) w3:=zeroValue44 w3;have ep:=DL w3 77 44 underlying77 r kvs IA.out (n.data.toList,3) _ hz;rw[Al] at ep;have nC:=gj.out n.data.toList 3;clear h3 h8 hz
 cases O with
 | none=>
  rw[nC.1 HE.out,Option.getD_none,Option.isSome_none] at ep;clear nC;go_wp2_with fail;clear ah ar bT;go_wp2_with fail;refine bodyPost_ret (v:=.tuple #[.agg #[.string ⟨#[]⟩,.int .i64 0,.int .i64 0,.slice none 0 0,.slice none 0 0],.bool false]) (by simp[results,results91,go_sem,r0,r1,r2,r3,r4,l3]) rfl ?_;exact Nt.out ⟨#[]⟩ 0 0 none 0 0 none 0 0 _ (λx h=>by cases h)
 | some y=>
  obtain⟨e',cZ,gG⟩:=nC.2 y HE.out;obtain⟨ys,ydA,ydn,ydc,ygA,ygn,ygc,rfl,_,_,_,_,_,_⟩:=kr gG;have HR:=jq gG;rw[cZ,Option.getD_some,Option.isSome_some] at ep;clear nC cZ gG;go_wp2_with fail;clear ah ar bT;go_wp2_with fail;refine bodyPost_ret (v:=.tuple #[.agg #[.string ys,.int .i64 y.set.type,.int .i64 y.set.life,.slice ydA ydn ydc,.slice ygA ygn ygc],.bool true]) (by simp[results,results91,go_sem,r0,r1,r2,r3,r4,l3]) rfl ?_;exact Nt.out ys _ _ ydA ydn ydc ygA ygn ygc _ (λx h=>by cases h;exact HR.out)

end
section
open Go.RowKit Go.Shelf
attribute [local go_sem] Oper.semAt_some
theorem agY(s:ByteArray)(w:World) :
 Calls prog 154 #[.string s] w λe w'=>e = .returned (.func (.func 217) #[] #[.pointer (some ⟨w.heap.size,0,none⟩)])/\w'=w.alloc (.cells #[.string s] 9):=by
 go_enter func154,ntmps154;go_wp2_with fail;go_ret;exact⟨rfl,rfl⟩
theorem atJ:∀ args w,(callFunc 217 args).run prog w = .ok (.enter 217 args) w:=enters_of func217 (by kernel_rfl) rfl
def tg(s cur:List UInt8)(pre rest:List (List UInt8)):Prop:=Np.ai cur=true/\pre++rest=Np.ups s/\∃ k,rest=Np.pG k cur/\(Np.bC cur).length<=k
theorem tg.start{s:List UInt8}(h:Np.ai s=true):tg s s [] (Np.ups s):=⟨h,rfl,_,rfl,bQ _⟩
theorem tg.step{s cur:List UInt8}{pre rest:List (List UInt8)}(h:tg s cur pre rest)(hr:cur≠[46]):∃ r,rest=Np.jo cur::r/\tg s (Np.jo cur) (pre ++ [Np.jo cur]) r:=by
 obtain⟨hv,he,k,rfl,hk⟩:=h;obtain⟨tT,x,hx⟩:=Np.t8 hv hr;rw[hx] at hk
 cases k with
 | zero=>simp at hk
 | succ k=>
  have e:Np.pG (k+1) cur=Np.jo cur::Np.pG k (Np.jo cur):=by rw[Np.pG,Qc hr]
  exact⟨Np.pG k (Np.jo cur),e,tT,by rw[<-he,e,List.append_assoc];rfl,k,rfl,by simpa using hk⟩
theorem tg.ends{s:List UInt8}{pre rest:List (List UInt8)}(h:tg s [46] pre rest):pre=Np.ups s:=by
 obtain⟨hv,he,k,rfl,hk⟩:=h
 have:Np.pG k [46] = []:=by cases k<;>simp[Np.pG]
 rw[this,List.append_nil] at he;exact he
theorem ahZ{s x:List UInt8}(h:Np.ai s=true)(hx:x∈Np.ups s):Np.ai x=true:=by
 unfold Np.ups at hx;generalize (Np.bC s).length=k at hx
 induction k generalizing s with
 | zero=>simp[Np.pG] at hx
 | succ k ih=>
  by_cases hr:s = [46]
  ·rw[Np.pG,QbQ hr] at hx;simp at hx
  ·rw[Np.pG,Qc hr] at hx;have hv:=(Np.t8 h hr).1;rcases List.mem_cons.1 hx with rfl | hx
   ·exact hv
   ·exact ih hv hx
def DV(bs:Nat)(w:World):Nat:=match w.cell? ⟨bs,0,none⟩ with | some (.string s)=>(Np.bC s.data.toList).length | _=>0
def agJ(s:List UInt8)(bs:Nat)(J:List (List UInt8)->(Nat->Prop)->World->Prop)(S:Nat->Prop)(W:World)(wr:World):Prop:=
 ∃ (cur:ByteArray) (pre rest:List (List UInt8)) (S1:Nat->Prop),tg s cur.data.toList pre rest/\cur.size<=60/\wr.heap[bs]?=some (.cells [Value.string cur].toArray 9 (0,0))/\J pre S1 wr/\(∀ i,S1 i->i<wr.heap.size)/\(∀ i,S1 i->S i\/W.heap.size<=i)/\W.heap.size<=wr.heap.size
theorem ahQ(s:ByteArray)(hv:Np.ai s.data.toList=true)(bs:Nat)(w:World)(nA:w.heap[bs]?=some (.cells [Value.string s].toArray 9 (0,0))) :
 Jl prog 217 (λy=>#[y,.pointer (some ⟨bs,0,none⟩)]) (λx:List UInt8=>#[bB x]) (Np.ups s.data.toList) (λ_=>False) (λk=>k=bs) w:=by
 intro l J Jx S W hW FA hJ J5 hY hS Kc hS' h0;have cL:=((FA.2 bs rfl).2).trans nA;have jB:bs<W.heap.size:=(eQ.1 cL).1;have hSb:¬ S bs:=λh=>Kc bs h rfl;have HV:=jq hv;have aXK:=nS hv;clear hW FA nA hv;refine callsIn_of_wp func217 rfl trivial ?_ rfl;simp only[ntmps217,List.size_toArray,List.length_cons,List.length_nil,Nat.reduceAdd,Nat.reduceSub,Array.replicate_succ,Array.replicate_zero,List.push_toArray,List.append_toArray,List.nil_append,List.cons_append];gi_wp2_with fail;gi_loopw [] (λwr=>agJ s.data.toList bs J S W wr) (λwr=>DV bs wr)
 case atStart=>
  exact⟨s,[],_,S,tg.start HV.out,aXK,cL,h0,hS',λi e=>.inl e,bQ _⟩
 case round=>
  obtain⟨cur,pre,rest,S1,mW,aKZ,lY,tl,eH,bJ,xV⟩:=hrel;have jb:=jq mW;have mv:=jq lY;have c0:=af [_] lY 0 _ rfl;have gO:bs<wr.heap.size:=by omega
  have Rw:¬ S1 bs:=λh=>by rcases bJ _ h with h | h;exact hSb h;omega
  clear mW lY;by_cases hr:cur.data.toList = [46]
  ·have jH:(cur.toList == [46])=true:=by rw[dQ,hr];rfl
   have HE:Hid (pre=Np.ups s.data.toList):=jq (by have:=jb.out;rw[hr] at this;exact this.ends);clear hr;gi_wp2_with fail;go_end0;exact⟨⟨_,rfl⟩,.inl ⟨S1,by rw[<-HE.out];exact tl,bJ⟩⟩
  ·have jH:(cur.toList == [46])=false:=by rw[dQ];simpa using hr
   have HR:=jq hr;clear hr;gi_wp2_with fail;refine⟨trivial,rfl,(callsIn_wide.2 (LV cur (by omega) jb.out.1 HR.out wr)).mono ?_⟩;rintro e w2 ⟨p,rfl,hp,_,ae⟩;obtain⟨r,mU,aH⟩:=jb.out.step HR.out;have bL:=ae.size;have Fs:=hJ _ _ _ _ tl (ItO.of_below ae);have bW:pre ++ [p.data.toList] <+: Np.ups s.data.toList:=by
    rw[<-jb.out.2.1,mU,hp];exact⟨r,by simp⟩
   obtain⟨fn,tmps,assign,body,hy,hR⟩:=hY pre p.data.toList S1 w2 bW Fs (λk e=>by have:=eH k e;omega) (by omega);have Ab:Sem.run prog (Instr.yield l #[.string p]) w2 = .ok (.round l fn tmps assign body) w2:=hy;have gl:=jq aH;have yY:=jq bW;have am:=jq ae;have RO:=(ae.block bs gO).trans mv.out;have WF:=jq RO;have HP:=jq hp;have p60:p.size<=60:=nS (by rw[hp];exact aH.1);have XZ:Hid ((Np.bC p.data.toList).length<(Np.bC cur.data.toList).length):=jq (by rw[hp];exact Np.LW jb.out.1 HR.out);have HZ:Hid (DV bs wr=(Np.bC cur.data.toList).length):=jq (by unfold DV;rw[c0]);clear hy aH bW ae Fs RO hp mU c0;gi_wp2_with fail;refine⟨rfl,hR.mono ?_⟩;rintro e W3 ⟨S3,cp,kl,ma,(⟨rfl,qo⟩ | ⟨rfl,qr⟩)⟩
   ·have mh:=cp.size;have FO:=(cp.keep bs (by omega) Rw).trans WF.out;have aGX:¬ S3 bs:=λh=>by rcases kl _ h with h | h;exact Rw h;omega
    have aq:bs<W3.heap.size:=by omega
    have d0:=af [_] FO 0 _ rfl;have f0:W3.frozen? ⟨bs,0,none⟩=false:=by simp[World.frozen?,FO]
    have WG:=jq FO;have hJ4:=hJ _ _ _ _ qo (a6Q (p:=⟨bs,0,none⟩) (.string p) rfl aGX);have og:Hid ((W3.setCell ⟨bs,0,none⟩ (.string p)).heap[bs]?=some (.cells [Value.string p].toArray 9 (0,0))):=jq (by simp[World.setCell,Array.getElem?_modify,WG.out]);clear FO;gi_wp2_with fail;go_roundw
    case rel=>
     refine⟨p,pre ++ [p.data.toList],r,S3,by rw[HP.out];exact gl.out,p60,og.out,hJ4,λi h=>by simpa [World.setCell] using ma i h,λi h=>?_,by simp[World.setCell];omega⟩;rcases kl i h with h | h
     ·exact bJ i h
     ·right;omega
    case measure=>
     have h1:DV bs (W3.setCell ⟨bs,0,none⟩ (.string p))=(Np.bC p.data.toList).length:=by unfold DV;rw[af [_] og.out 0 _ rfl]
     rw[h1,HZ.out];exact XZ.out
   ·gi_wp2_with fail;refine bodyPost_ret (results_none rfl _ _ _) rfl ?_;refine⟨⟨_,rfl⟩,.inr ⟨_,S3,yY.out,qr,λi h=>?_⟩⟩;rcases kl i h with h | h
    ·exact bJ i h
    ·right;omega
end
section
open Go.RowKit Go.Shelf
attribute [local go_sem] Oper.semAt_some
noncomputable def Np.yy(known:List Np.Signed)(n:List UInt8)(t:Int)(a:List UInt8):Option (List Np.Signed):=
 (Np.fS known (Np.eR a) t).bind λs=>(known.find? λp=>Np.cx p == Np.cx s&&Np.GJ p.set (Np.cx s) n a).map λp=>[s,p]
def WlI(known:List Np.Signed)(n:List UInt8)(t:Int)(w4:World)(Rc:Nat)(pre:List (List UInt8))(S:Nat->Prop)(W:World):Prop:=
 (∀ a∈pre,Np.yy known n t a=none)/\S Rc/\W.heap[Rc]?=some (.cells [Value.slice none 0 0].toArray 22 (0,0))/\Below Rc w4 W
theorem a5Y{Rc B:Nat}{O S:Nat->Prop}{W W':World}(h:ItO B O S W W')(hB:Rc<=B)(hO:∀ k,O k->Rc<k)(hz:Rc<=W.heap.size):Below Rc W W':=
 ⟨h.os,h.tape,h.output,h.size,λk hk=>h.keep k (by omega) (.inl ⟨by omega,λe=>by have:=hO k e;omega⟩)⟩
theorem Vs(known:List Np.Signed)(n:List UInt8)(t:Int)(w4:World)(Rc B:Nat)(O:Nat->Prop)(hB:Rc<=B)(hO:∀ k,O k->Rc<k):mF B O (WlI known n t w4 Rc):=by
 rintro pre S W W' ⟨h1,h2,h3,h4⟩ aH;have ag:=(eQ.1 h3).1;exact⟨h1,h2,(aH.keep Rc ag (.inr h2)).trans h3,h4.trans (a5Y aH hB hO (by omega))⟩
theorem WlI.next{known:List Np.Signed}{n:List UInt8}{t:Int}{w4:World}{Rc:Nat}{pre:List (List UInt8)}{S:Nat->Prop}{W W':World}(h:WlI known n t w4 Rc pre S W)(hb:Below W.heap.size W W'){x:List UInt8}(hx:Np.yy known n t x=none):WlI known n t w4 Rc (pre ++ [x]) S W':=by
 obtain⟨h1,h2,h3,h4⟩:=h;have ag:=(eQ.1 h3).1;refine⟨λa ha=>?_,h2,(hb.block Rc ag).trans h3,h4.trans (hb.abQ)⟩;rcases List.mem_append.1 ha with ha | ha
 ·exact h1 a ha
 ·rw[List.mem_singleton.1 ha];exact hx
def nb(X r:Nat)(x wd:List UInt8)(t:Int)(g:Bool)(v e11:Value)(i:Nat):Value:=[.pointer (some ⟨X,1,none⟩),.map (some r),bB x,bB wd,.pointer (some ⟨X+1,1,none⟩),.int .i64 t,.agg #[bB wd,.int .i64 t],.tuple #[v,.bool g],.tuple #[v,.bool g],v,.bool g,e11,undef,.bool g].getD i undef
def mp(i:Nat):Nat:=[15,16,17,18,19,20,21,22,14,23,24,6,8,7].getD i 0
def bKK:List Nat:=[0,1,2,3,4,5,6,7,8,9,10,11].map mp
theorem Mw:∀ i∈[0,1,2,3,4,5,6,7,8,9,10,11],mp i<53/\mp i∈bKK:=by decide
theorem Mx:∀ i∈[0,1,2,3,4,5,6,7,8,9,10,11],∀ j∈[0,1,2,3,4,5,6,7,8,9,10,11],j≠i->mp i≠mp j:=by decide
def bKX:List Nat:=[0,1,2,3,4,5,6,7,8,9,10,11,12].map mp
theorem Vj:∀ i∈[0,1,2,3,4,5,6,7,8,9,10,11,12],mp i<53/\mp i∈bKX:=by decide
theorem bKJ:∀ i∈[0,1,2,3,4,5,6,7,8,9,10,11,12],∀ j∈[0,1,2,3,4,5,6,7,8,9,10,11,12],j≠i->mp i≠mp j:=by decide
theorem QK{w9:World}{E:Nat}{ty:TypeId}(v0 v1 v2 v3 v4 z0 z1 z2 z3 z4:Value)(h:w9.heap[E]?=some (.cells #[z0,z1,z2,z3,z4] ty (0,0))) :
 (((((w9.setCell ⟨E,0,none⟩ v0).setCell ⟨E,1,none⟩ v1).setCell ⟨E,2,none⟩ v2).setCell ⟨E,3,none⟩ v3).setCell ⟨E,4,none⟩ v4).heap[E]?=some (.cells [v0,v1,v2,v3,v4].toArray ty (0,0)):=by
 simp[World.setCell,Array.getElem?_modify,h]
theorem US(s:ByteArray)(ty life:Int)(v u:Value)(x:Np.Signed)(z:ByteArray)(hz:z.data.toList=Np.cx x)(w:World)(hg:SlR en 6 w w.heap.size u x.sigs) :
 Calls prog 89 #[.agg #[.string s,.int .i64 ty,.int .i64 life,v,u]] w (aCX w.heap.size w (.string z)):=by
 refine (UQ s ty life v u x.sigs x.set w hg).mono ?_;rintro e w' ⟨c,rfl,⟨hc,_⟩,hb⟩;exact⟨by congr 2;exact iV (by rw[hc,hz]),hb⟩
theorem UR{w:World}{B:Nat}{u:Value}{x:Np.Signed}(hg:SlR en 6 w B u x.sigs):(Np.cx x).length<=140737488355328:=by
 obtain⟨A,c,_,_,_,he⟩:=hg;unfold Np.cx
 cases hs:x.sigs with
 | nil=>simp
 | cons g r=>
  obtain⟨b,o,e,_,_,_,_,z,hz,gd,_⟩:=he 0 g (by rw[hs];rfl);dsimp only;rw[<-hz,bO];exact gd
theorem MA(x:List UInt8)(hs:x.length<=60)(w:World):Calls prog 155 #[bB x] w λe w'=>e = .returned (bB (Np.eR x))/\w'=w:=by
 refine (bNJ ⟨x.toArray⟩ (by show x.toArray.size<=60;simpa using hs) w).mono ?_;rintro e w' ⟨c,rfl,⟨hc,_⟩,rfl⟩;refine⟨?_,rfl⟩;show Ending.returned (Value.string c) = .returned (Value.string _);congr 2;exact iV (by rw[hc])
end
section
open Go.RowKit Go.Sort Go.Shelf
theorem Qw(s:ByteArray)(hs:s.size<=1000000)(w:World) :
 Calls prog 160 #[.string s] w λe w'=>e = .returned (.int .i64 (Np.fU s.data.toList))/\w'=w:=by
 by_cases h:s.data.toList = [46]
 ·have h2:(s.toList == [46])=true:=by rw[dQ,h];rfl
  have HW:Hid (Np.fU s.data.toList=0):=jq (by unfold Np.fU;rw[QbQ h]);clear h;go_enter func160,ntmps160;go_wp2_with fail;go_ret;exact⟨by rw[HW.out];rfl,rfl⟩
 ·have h2:(s.toList == [46])=false:=by rw[dQ];simpa using h
  have HW:Hid (Np.fU s.data.toList=(s.data.toList.count 46:Int)+1):=jq (by unfold Np.fU;rw[Qc h]);clear h;go_enter func160,ntmps160;go_wp2_with fail;refine (Tryz.strings_Count_one s 46 w).mono ?_;rintro e w2 ⟨rfl,rfl⟩;have ke:Lib.countByte s.data.toList 46<=1000000:=by
   have:=List.count_le_length (a:=(46:UInt8)) (l:=s.data.toList)
   rw[bO] at this;unfold Lib.countByte;omega
  go_wp2_with fail;go_ret;exact⟨by rw[HW.out];rfl,rfl⟩
abbrev DnN(n:List UInt8):={ z:List UInt8 // Np.bA n z=true }
def rI{n:List UInt8}(x:DnN n):Value:=bB x.1
def lT{n:List UInt8}(x y:DnN n):Int:=Np.fU y.1 - Np.fU x.1
theorem VE{n:List UInt8}(x:DnN n):x.1.length<=60:=by
 have:=x.2
 unfold Np.bA at this;simp only[Bool.and_eq_true] at this;exact Np.yr this.2.1
theorem Qu(s:List UInt8):0<=Np.fU s/\Np.fU s<=s.length+1:=by
 unfold Np.fU
 have:=List.count_le_length (a:=(46:UInt8)) (l:=s)
 split<;>omega
theorem arX{n:List UInt8}(x y:DnN n)(w:World) :
 Calls prog 159 #[rI x,rI y] w λe w'=>e = .returned (.int .i64 (lT x y))/\w'=w:=by
 have l1:=VE x;have l2:=VE y;have d1:=Qu x.1;have d2:=Qu y.1;have HX:=jq (Qw ⟨x.1.toArray⟩ (by show x.1.toArray.size<=_;simp;omega) w);have HY:=jq (Qw ⟨y.1.toArray⟩ (by show y.1.toArray.size<=_;simp;omega) w);rw[show (⟨x.1.toArray⟩:ByteArray).data.toList=x.1 by simp] at HX;rw[show (⟨y.1.toArray⟩:ByteArray).data.toList=y.1 by simp] at HY;unfold rI bB lT;generalize Np.fU x.1=a at *;generalize Np.fU y.1=b at *;go_enter func159,ntmps159;go_wp2_with fail;refine HY.out.mono ?_;rintro e w2 ⟨rfl,rfl⟩;go_wp2_with fail;refine HX.out.mono ?_;rintro e w2' ⟨rfl,rfl⟩;go_wp2_with fail;go_ret;exact⟨rfl,rfl⟩
theorem bEX{n:List UInt8} : SWO (ltOf (lT (n:=n))) where
 irrefl x:=by unfold ltOf lT;simp
 trans x y z h1 h2:=by
  unfold ltOf lT at *;simp only[Qa] at *;omega
 ntrans x y z h1 h2:=by
  unfold ltOf lT at *;simp only[decide_eq_false_iff_not] at *;omega
theorem Np.bCK:∀ s:List UInt8,(Np.be s).length=s.count 46+1:=by
 intro s
 induction s with
 | nil=>rfl
 | cons c r ih=>
  rw[Np.be];by_cases hc:c=46
  ·rw[QbQ hc,List.length_cons,ih,hc,List.count_cons_self]
  ·rw[Qc hc,List.count_cons_of_ne hc];have hne:=Np.oM r
   cases h:Np.be r with
   | nil=>exact absurd h hne
   | cons x xs=>rw[h] at ih;simpa using ih
theorem Np.Qv{z:List UInt8} : Np.fU z=(Np.bC z).length:=by
 unfold Np.fU Np.bC;split
 ·rfl
 ·rw[Np.bCK];rfl
theorem Np.asQ{n a b:List UInt8}(ha:Np.bA n a=true)(hb:Np.bA n b=true)(h:Np.fU a=Np.fU b):a=b:=by
 unfold Np.bA at ha hb;simp only[Bool.and_eq_true] at ha hb;have ea:a≠[]:=λe=>by rw[e] at ha;exact absurd ha.2.1 (by decide)
 have eb:b≠[]:=λe=>by rw[e] at hb;exact absurd hb.2.1 (by decide)
 have h1:=ha.2.2;have h2:=hb.2.2;rw[<-Np.py ea,Np.vB] at h1;rw[<-Np.py eb,Np.vB] at h2;obtain⟨p,hp⟩:=h1;obtain⟨q,hq⟩:=h2;rw[Np.Qv,Np.Qv] at h;have hl:(Np.bC a).length=(Np.bC b).length:=by omega
 refine Np.LX ?_;exact (List.append_inj' (hp.symm.trans hq) hl).2
theorem bFJ{n:List UInt8}(x y:DnN n)(h1:ltOf lT x y=false)(h2:ltOf lT y x=false):x=y:=by
 unfold ltOf lT at *;simp only[decide_eq_false_iff_not] at *;exact Subtype.ext (Np.asQ x.2 y.2 (by omega))
theorem aNQ{α:Type}[Inhabited α](enc:α->Value){w:World}{g n:Nat}{os:Array Obj}{cur:Array Value}{e:TypeId}{fr:Nat×Nat}(d:Array α)(hb:w.heap[g]?=some (.cells cur e fr)) :
 (sortWorld enc w g 0 n d os).heap[g]?=some (.cells (putCells enc 0 d cur) e fr):=by
 have hl:g<w.heap.size:=(eQ.1 hb).1;unfold sortWorld;rw[heap_grow_old _ _ (by simpa [putRow,mapBlock,Sort.ahead] using hl)];simp[putRow,mapBlock,Sort.ahead,Array.getElem?_modify,hb,onCells]
theorem aCQ{α:Type}[Inhabited α](enc:α->Value){w:World}{g n:Nat}{os:Array Obj}(d:Array α):w.grownBy (sortWorld enc w g 0 n d os) (some g):=by
 unfold sortWorld;refine⟨rfl,rfl,rfl,by simp,λq hq hne=>?_⟩;rw[heap_grow_old _ _ (by simpa using hq)]
 have:g≠q:=λe=>hne (by rw[e])
 simp[putRow,mapBlock,Sort.ahead,Array.getElem?_modify,this]
theorem aBY(w:World):∃ q os,w=grow (w.drewN q) os:=⟨0,#[],by cases w;simp[grow,World.drewN]⟩
theorem bCQ(n:List UInt8)(iC:Np.ai n=true)(base:Nat)(v:Value)(xs:List (List UInt8))(w:World)(hown:jx base w v xs)(hv:∀ x∈xs,Np.bA n x=true)(hl:xs.length<=100000) :
 Calls prog 158 #[v,.func (.func 159) #[] #[]] w λe w'=>e = .returned (.tuple #[])/\jx base w' v (xs.mergeSort λa b=>decide (Np.fU b<=Np.fU a))/\w.grownBy w' v.ownBlock:=by
 have zH:Np.bA n n=true:=by
  unfold Np.bA;have hne:n≠[]:=λe=>by rw[e] at iC;exact absurd iC (by decide)
  rw[iC,Bool.true_and,Bool.true_and,<-Np.py hne,Np.vB];exact⟨[],rfl⟩
 haveI:Inhabited (DnN n):=⟨⟨n,zH⟩⟩
 obtain⟨ys,Gt⟩:∃ ys:List (DnN n),ys.map (·.1)=xs:=⟨xs.pmap (λx h=>⟨x,h⟩) hv,by rw[List.map_pmap];simp⟩;subst Gt;have hs:((ys.map (·.1)).mergeSort λa b=>decide (Np.fU b<=Np.fU a))=(ys.mergeSort λx y=>!(ltOf lT) y x).map (·.1):=by
  refine (List.map_mergeSort (r:=λx y:DnN n=>!(ltOf lT) y x) (s:=λa b=>decide (Np.fU b<=Np.fU a)) (f:=λx:DnN n=>x.1) (l:=ys) (λa _ b _=>?_)).symm;unfold ltOf lT;rw[Bool.eq_iff_iff];simp only[Bool.not_eq_true',decide_eq_false_iff_not,Qa];omega
 have KO:w.ownsRow base 9 1 v (ys.map (·.1)).length ((ys.map (·.1)).map bB):=hown;rw[List.length_map] at KO hl;rcases KO.2 with ⟨rfl,h0⟩ | ⟨g,cap,cur,rfl,ji,hb,h1,h2,h3,h4⟩
 ·have:ys = []:=rQ h0
  subst this;refine (Tryz.slices_SortFunc_none (α:=DnN n) none 0 _ w).mono ?_;intro e w' hh;obtain⟨rfl,rfl⟩:=hh;exact⟨rfl,by rw[hs];simpa using hown,⟨rfl,rfl,rfl,bQ _,λ_ _ _=>rfl⟩⟩
 have eg:∀ args w,(callFunc 159 args).run prog w = .ok (.enter 159 args) w:=enters_of func159 (by kernel_rfl) rfl;have hH:Holds rI w g 0 ys.toArray:=λj hj=>by
  have hj':j<ys.length:=by simpa using hj
  refine⟨?_,by simp[World.frozen?,hb]⟩
  have:=KO.cellAt j (by omega)
  rw[Nat.zero_add,this,List.getElem?_map,List.getElem?_map,aQ hj',getElem!_pos ys.toArray j hj];simp[rI]
 have Kr:CmpLays1 prog 159 #[] (rI (n:=n)) (lT (n:=n)) g 0 ys.toArray.size w:=λm os dk _ x y=>(arX (n:=n) x y _).mono λe w' ⟨he,hw⟩=>⟨he,by rw[hw];exact aBY _⟩;have RQ:=Tryz.slices_SortFunc_total rI (λ_=>rfl) lT bEX 159 #[] g 0 cap ys.toArray w eg Kr hH (eQ.1 hb).1 (by simp;omega) bFJ;have hlen:(ys.mergeSort λx y=>!(ltOf lT) y x).length=ys.length:=List.length_mergeSort _;rw[List.size_toArray] at RQ;refine RQ.mono λe w' ⟨he,m,os,hw⟩=>⟨he,?_,?_⟩
 ·subst hw;rw[hs];unfold jx;rw[List.length_map,hlen];refine⟨by simp,.inr ⟨g,cap,_,rfl,ji,aNQ rI _ hb,h1,h2,by simp[putCells,h3],?_⟩⟩;apply List.ext_getElem?;intro j;by_cases hj:j<ys.length
  ·have F0:j<cur.size:=by omega
   have hj3:j<(ys.mergeSort λx y=>!(ltOf lT) y x).length:=by omega
   rw[List.getElem?_take_of_lt (by omega),Array.getElem?_toList,List.getElem?_map,List.getElem?_map,aQ hj3];simp[putCells,F0,hj,rI]
  ·rw[List.getElem?_take_eq_none (by omega),List.getElem?_eq_none (by simp;omega)]
 ·subst hw;exact aCQ rI _
end
section
open Go.RowKit
section
variable {P:Program}
end
structure Rows2(B X:Nat)(w:World)(lv sv:Value)(l:List Np.Signed):Prop where
 rl:bS az 5 44 B X w lv l
 rs:bS iw 4 25 B X w sv (l.map (·.set))
 ap:∀ g,lv.ownBlock=some g->sv.ownBlock≠some g
theorem Rows2.nil(w:World)(X:Nat):Rows2 w.heap.size X w (.slice none 0 0) (.slice none 0 0) []:=⟨bS.nil w,bS.nil w,λg h=>by simp[Value.ownBlock] at h⟩
theorem Rows2.keep{B X:Nat}{w w':World}{lv sv:Value}{l:List Np.Signed}(h:Rows2 B X w lv sv l)(hb:Below w.heap.size w w')(hB:X<=w.heap.size):Rows2 B X w' lv sv l:=
 ⟨h.rl.keep ax hb hB,h.rs.keep UC hb hB,h.ap⟩
theorem U7(a:ByteArray):bB a.data.toList = .string a:=by cases a;simp[bB]
def VS(p:Int×Np.oh)(w:World)(e:Ending)(w':World):Prop:=
 ∃ qn:ByteArray,e = .returned (.tuple #[.int .i64 p.1,.agg #[.string qn,.int .i64 p.2.2]])/\qn.data.toList=p.2.1/\qn.size<=140737488355328/\Below w.heap.size w w'
theorem TT(w:World):Calls prog 94 #[] w (aCX w.heap.size w (.tuple #[.int .i64 2,.agg #[.string ⟨#[]⟩,.int .i64 0]])):=by
 obtain⟨w1,ah⟩:=aaK (w.alloc (.cells #[.string ⟨#[]⟩,.int .i64 0] 27));have av:Below w.heap.size w w1:=by rw[<-ah];exact aG _ _
 have l1:w.heap.size<w1.heap.size:=by rw[<-ah];simp
 have hq:w1.heap[w.heap.size]?=some (.cells [Value.string ⟨#[]⟩,.int .i64 0].toArray 27 (0,0)):=by rw[<-ah];exact heap_alloc_new _ _
 have q0:=af [_,_] hq 0 _ rfl;have q1:=af [_,_] hq 1 _ rfl;have fq:∀ i,w1.frozen? ⟨w.heap.size,i,none⟩=false:=λi=>by simp[World.frozen?,hq]
 have ay:=jq av;clear av hq;go_enter func94,ntmps94;go_wp2_with fail;clear ah;go_wp2_with fail;refine bodyPost_ret (v:=.tuple #[.int .i64 2,.agg #[.string ⟨#[]⟩,.int .i64 0]]) (by simp[results,results94,go_sem,q0,q1]) rfl ?_;exact⟨rfl,(ay.out.setCell (p:=⟨w.heap.size,0,none⟩) (bQ _) _).setCell (p:=⟨w.heap.size,1,none⟩) (bQ _) _⟩
theorem bbK(b:Nat)(qn:ByteArray)(qt:Int)(w:World)(c0:w.cell? ⟨b,0,none⟩=some (.string qn))(c1:w.cell? ⟨b,1,none⟩=some (.int .i64 qt)):Calls prog 97 #[.pointer (some ⟨b,0,none⟩)] w (aCX w.heap.size w (.tuple #[.int .i64 3,.agg #[.string qn,.int .i64 qt]])):=by
 have lb:=World.block_lt_of_cell? w _ c0;simp only at lb;obtain⟨w1,ah⟩:=aaK (w.alloc (.cells #[.string ⟨#[]⟩,.int .i64 0] 27));have av:Below w.heap.size w w1:=by rw[<-ah];exact aG _ _
 have l1:w.heap.size<w1.heap.size:=by rw[<-ah];simp
 have hq:w1.heap[w.heap.size]?=some (.cells [Value.string ⟨#[]⟩,.int .i64 0].toArray 27 (0,0)):=by rw[<-ah];exact heap_alloc_new _ _
 have q0:=af [_,_] hq 0 _ rfl;have q1:=af [_,_] hq 1 _ rfl;have fq:∀ i,w1.frozen? ⟨w.heap.size,i,none⟩=false:=λi=>by simp[World.frozen?,hq]
 have d0:=(av.cell (p:=⟨b,0,none⟩) lb).trans c0;have d1:=(av.cell (p:=⟨b,1,none⟩) lb).trans c1;have hne:w.heap.size≠b:=by omega
 have lb1:b<w1.heap.size:=by omega
 have ay:=jq av;clear av hq c0 c1;go_enter func97,ntmps97;go_wp2_with fail;clear ah;go_wp2_with fail;go_region
 all_goals
  go_wp2_with fail;refine bodyPost_ret (v:=.tuple #[.int .i64 3,.agg #[.string qn,.int .i64 qt]]) (by simp[results,results97,go_sem,q0,q1]) rfl ?_;exact⟨rfl,((Below.drew ay.out).setCell (p:=⟨w.heap.size,0,none⟩) (bQ _) _).setCell (p:=⟨w.heap.size,1,none⟩) (bQ _) _⟩
theorem bbJ(bs bz bk bj bb:Nat)(s zone:ByteArray)(hs:s.size<=140737488355328)(ty life:Int)(dv gv kv:Value)(aV:∃ A n c,dv = .slice A n c)(hgv:∃ A n c,gv = .slice A n c)(rV:∃ A n c,kv = .slice A n c)(ds:List Np.Datum)(gs:List Np.Sig)(keys:List Np.Key)(at' dr:Int)(w:World)(hR:cr w w.heap.size)
 (hd:SlR cm 3 w w.heap.size dv ds) (hg:SlR en 6 w w.heap.size gv gs) (hk:SlR kK 2 w w.heap.size kv keys)
 (s0:w.cell? ⟨bs,0,none⟩=some (.string s)) (s1:w.cell? ⟨bs,1,none⟩=some (.int .i64 ty)) (s2:w.cell? ⟨bs,2,none⟩=some (.int .i64 life)) (s3:w.cell? ⟨bs,3,none⟩=some dv) (s4:w.cell? ⟨bs,4,none⟩=some gv)
 (z0:w.cell? ⟨bz,0,none⟩=some (.string zone)) (k0:w.cell? ⟨bk,0,none⟩=some kv) (j6:w.cell? ⟨bj,6,none⟩=some (.int .i64 at')) (j7:w.cell? ⟨bj,7,none⟩=some (.int .i64 dr)) (b0:w.cell? ⟨bb,0,none⟩=some (.func (.func 94) #[] #[])) :
 Calls prog 95 #[.pointer (some ⟨bs,0,none⟩),.pointer (some ⟨bz,0,none⟩),.pointer (some ⟨bk,0,none⟩),.pointer (some ⟨bj,0,none⟩),.pointer (some ⟨bb,0,none⟩)] w (aCX w.heap.size w (.tuple #[.int .i64 (if Np.gw ⟨⟨s.data.toList,ty,life,ds⟩,gs⟩ zone.data.toList keys at' dr then 1 else 2),.agg #[.string ⟨#[]⟩,.int .i64 0]])):=by
 obtain⟨dA,dn,dc,rfl⟩:=aV;obtain⟨gA,gn,gc,rfl⟩:=hgv;obtain⟨kA,kn,kc,rfl⟩:=rV;have lbs:=World.block_lt_of_cell? w _ s0;have lbz:=World.block_lt_of_cell? w _ z0;have lbk:=World.block_lt_of_cell? w _ k0;have lbj:=World.block_lt_of_cell? w _ j6;have lbb:=World.block_lt_of_cell? w _ b0;simp only at lbs lbz lbk lbj lbb;have HD:=jq hd;have HG:=jq hg;have HK:=jq hk;have eS:=jq hR;obtain⟨w1,ah⟩:=aaK (w.alloc (.cells #[.string ⟨#[]⟩,.int .i64 0] 27));have av:Below w.heap.size w w1:=by rw[<-ah];exact aG _ _
 have l1:w.heap.size<w1.heap.size:=by rw[<-ah];simp
 have hq:w1.heap[w.heap.size]?=some (.cells [Value.string ⟨#[]⟩,.int .i64 0].toArray 27 (0,0)):=by rw[<-ah];exact heap_alloc_new _ _
 have HQ:=jq hq;replace s0:=(av.cell (p:=⟨bs,0,none⟩) lbs).trans s0;replace s1:=(av.cell (p:=⟨bs,1,none⟩) lbs).trans s1;replace s2:=(av.cell (p:=⟨bs,2,none⟩) lbs).trans s2;replace s3:=(av.cell (p:=⟨bs,3,none⟩) lbs).trans s3;replace s4:=(av.cell (p:=⟨bs,4,none⟩) lbs).trans s4;replace z0:=(av.cell (p:=⟨bz,0,none⟩) lbz).trans z0;replace k0:=(av.cell (p:=⟨bk,0,none⟩) lbk).trans k0;replace j6:=(av.cell (p:=⟨bj,6,none⟩) lbj).trans j6;replace j7:=(av.cell (p:=⟨bj,7,none⟩) lbj).trans j7;replace b0:=(av.cell (p:=⟨bb,0,none⟩) lbb).trans b0;have ay:=jq av;obtain⟨KD,xh⟩:∃ KD:Int,(if Np.gw ⟨⟨s.data.toList,ty,life,ds⟩,gs⟩ zone.data.toList keys at' dr then 1 else 2)=KD:=⟨_,rfl⟩;rw[xh];have ip:=jq xh;clear av hq hd hg hk hR xh;go_enter func95,ntmps95;go_wp2_with fail;clear ah;go_wp2_with fail;refine (Mb zone at' dr _ keys s hs ty life _ _ ds gs w1 ((eS.out.keep ay.out).more ay.out.size) (HD.out.later bM bY ay.out) (HG.out.later dG el ay.out) (HK.out.later (λ_ _ _ _ _ h _=>h) (λ_ _ _ _ _ h _=>h) ay.out)).mono ?_;rintro e w2 ⟨rfl,ae⟩;obtain⟨r,hr⟩:=aaK (Np.gw ⟨⟨s.data.toList,ty,life,ds⟩,gs⟩ zone.data.toList keys at' dr);rw[hr];have Ex:Hid (KD=if r=true then 1 else 2):=jq (by rw[<-ip.out,hr]);have bL:=ae.size;have am:=jq (ay.out.trans (ae.mono ay.out.size));have gz:=jq ((ae.block w.heap.size l1).trans HQ.out);replace b0:=aaQ ae b0;clear ae hr s0 s1 s2 s3 s4 z0 k0 j6 j7;have eA:=gz.out;have q0:=af [_,_] eA 0 _ rfl;have q1:=af [_,_] eA 1 _ rfl;have fq:∀ i,w2.frozen? ⟨w.heap.size,i,none⟩=false:=λi=>by simp[World.frozen?,eA]
 have l2:w.heap.size<w2.heap.size:=by omega
 clear eA
 cases r with
 | true=>
  go_wp2_with fail;refine bodyPost_ret (v:=.tuple #[.int .i64 1,.agg #[.string ⟨#[]⟩,.int .i64 0]]) (by simp[results,results95,go_sem,q0,q1]) rfl ?_;exact⟨by rw[Ex.out];rfl,(am.out.setCell (p:=⟨w.heap.size,0,none⟩) (bQ _) _).setCell (p:=⟨w.heap.size,1,none⟩) (bQ _) _⟩
 | false=>
  go_wp2_with fail;refine (TT w2).mono ?_;rintro e w3 ⟨rfl,aq⟩;have mh:=aq.size;have aw:=jq (am.out.trans (aq.mono am.out.size));have iY:=jq ((aq.block w.heap.size l2).trans gz.out);clear aq q0 q1 fq b0;have gV:=iY.out;have q0:=af [_,_] gV 0 _ rfl;have q1:=af [_,_] gV 1 _ rfl;have fq:∀ i,w3.frozen? ⟨w.heap.size,i,none⟩=false:=λi=>by simp[World.frozen?,gV]
  have l3:w.heap.size<w3.heap.size:=by omega
  clear gV;go_wp2_with fail;refine bodyPost_ret (v:=.tuple #[.int .i64 2,.agg #[.string ⟨#[]⟩,.int .i64 0]]) (by simp[results,results95,go_sem,q0,q1]) rfl ?_;exact⟨by rw[Ex.out];rfl,(aw.out.setCell (p:=⟨w.heap.size,0,none⟩) (bQ _) _).setCell (p:=⟨w.heap.size,1,none⟩) (bQ _) _⟩
def Np.GA(known:List Np.Signed)(anchor:Np.DSet)(t d:Int)(x:Np.Signed):Int×Np.oh:=
 match Np.pC known anchor (Np.cx x) t d with
 | (ks,q,e)=>if e=0 then (if Np.gw x (Np.cx x) ks t d then (1,([],0)) else (2,([],0))) else if e=4 then (3,q) else (2,([],0))
theorem Np.bbX{known:List Np.Signed}{anchor:Np.DSet}{t d:Int}{x:Np.Signed}(h:Np.bA x.set.name (Np.cx x)=false):Np.mY known anchor t d x=(2,([],0)):=by
 rw[Np.mY,h];rfl
theorem Np.bbY{known:List Np.Signed}{anchor:Np.DSet}{t d:Int}{x:Np.Signed}(h:(decide (x.set.type=6)&&x.set.name == Np.cx x)=true):Np.mY known anchor t d x=(2,([],0)):=by
 rw[Np.mY,h,Bool.or_true];rfl
theorem Np.TU{known:List Np.Signed}{anchor:Np.DSet}{t d:Int}{x:Np.Signed}(h:Np.bA x.set.name (Np.cx x)=true)(h2:(decide (x.set.type=6)&&x.set.name == Np.cx x)=false):Np.mY known anchor t d x=Np.GA known anchor t d x:=by
 rw[Np.mY,h,h2];rfl
theorem GT{P:Program}(w:World)(t:TypeId)(kt et:TypeId)(ht:P.underlying t=some (.map kt et))(hk:P.underlying kt=some (.int .i64))
 (r:Nat) (kvs:List (Int×Value)) (hr:oV r kvs w) (key:Int) (val:Value) (dL:kvs.lookup key=none) :
 ∃ w',(Instr.mapUpdate t (.map (some r)) (.int .i64 key) val).run P w = .ok () w'/\oV r (kvs ++ [(key,val)]) w'/\Turned r w w':=by
 obtain⟨es,c,hr,he⟩:=hr;have hf:=(QF key es.toList kvs 0 he).2 dL;have hc:(Instr.checkKey false 10000 kt (.int .i64 key)).run P w = .ok () w:=MapKept.run_checkKey (k:=.int .i64 key) hk (by simp[MapKept.IsKey]) false 9999;have jI:(Instr.mapUpdate t (.map (some r)) (.int .i64 key) val).run P w = .ok () { w with heap:=w.heap.setIfInBounds r (.map (es.push { key:=.int .i64 key,val:=val,born:=c }) (c+1)) }:=by
  simp[Instr.mapUpdate,run_underlying ht,MapKept.run_getObj_map hr,hc,MapKept.run_findKey hk hf,MapKept.run_setObj_map _ hr,Result.andThen]
 have hl:r<w.heap.size:=(eQ.1 hr).1;exact⟨_,jI,⟨_,_,by simp[hl];exact⟨rfl,rfl⟩,by simp[he]⟩,⟨rfl,rfl,rfl,by simp,λi hi=>by simp[Ne.symm hi]⟩⟩
theorem bvX{P:Program}(w:World)(t kt et:TypeId)(ht:P.underlying t=some (.map kt et))(hk:P.underlying kt=some (.int .i64))(r:Nat)(kvs:List (Int×Value))(hr:oV r kvs w)(key:Int)(z:Value)(hz:(zeroValue et).run P w = .ok z w) :
 (Instr.lookup t (.map (some r)) (.int .i64 key) true).run P w = .ok (.tuple #[(kvs.lookup key).getD z,.bool (kvs.lookup key).isSome]) w:=by
 obtain⟨es,c,hr,he⟩:=hr;have hf:=QF key es.toList kvs 0 he;have hc:∀ b,(Instr.checkKey b 10000 kt (.int .i64 key)).run P w = .ok () w:=λb=>MapKept.run_checkKey (k:=.int .i64 key) hk (by simp[MapKept.IsKey]) b 9999
 cases hl:kvs.lookup key with
 | none=>simp[Instr.lookup,run_underlying ht,MapKept.run_getObj_map hr,hc,MapKept.run_findKey hk (hf.2 hl),Result.andThen,hz]
 | some v=>
  obtain⟨j,hj⟩:=hf.1 v hl;simp[Instr.lookup,run_underlying ht,MapKept.run_getObj_map hr,hc,MapKept.run_findKey hk hj,Result.andThen]
theorem bdZ(w8 w9:World)(h9:w8.alloc (.map #[] 0)=w9)(R:Nat)(hR:w8.heap.size=R)(f2 f3 f1:Value):∃ w10 w11 w12 w13:World,
 (Instr.mapUpdate 140 (.map (some R)) (.int .i64 0) f2).run prog w9 = .ok () w10/\
 (Instr.mapUpdate 140 (.map (some R)) (.int .i64 4) f3).run prog w10 = .ok () w11/\
 (Instr.mapUpdate 140 (.map (some R)) (.int .i64 31) f1).run prog w11 = .ok () w12/\
 (Instr.mapUpdate 140 (.map (some R)) (.int .i64 1) f1).run prog w12 = .ok () w13/\
 oV R [(0,f2),(4,f3),(31,f1),(1,f1)] w13/\Below R w8 w11/\Below R w8 w12/\Below R w8 w13/\R<w13.heap.size:=by
 subst h9;subst hR;have h0:=oV.made w8;have cL:Below w8.heap.size w8 (w8.alloc (.map #[] 0)):=aG _ _;have ut:=underlying140;have uk:=underlying34;obtain⟨w10,r1,m1,t1⟩:=GT (P:=prog) _ 140 _ _ ut uk _ _ h0 0 f2 rfl;obtain⟨w11,r2,m2,t2⟩:=GT (P:=prog) _ 140 _ _ ut uk _ _ m1 4 f3 rfl;obtain⟨w12,r3,m3,t3⟩:=GT (P:=prog) _ 140 _ _ ut uk _ _ m2 31 f1 rfl;obtain⟨w13,r4,m4,t4⟩:=GT (P:=prog) _ 140 _ _ ut uk _ _ m3 1 f1 rfl;have b1:=cL.trans (t1.below (n:=w8.heap.size) (bQ _));have b2:=b1.trans (t2.below (n:=w8.heap.size) (bQ _));have b3:=b2.trans (t3.below (n:=w8.heap.size) (bQ _));have b4:=b3.trans (t4.below (n:=w8.heap.size) (bQ _));exact⟨w10,w11,w12,w13,r1,r2,r3,r4,m4,b2,b3,b4,m4.lt⟩
theorem bKZ(kv adv:Value)(known:List Np.Signed)(fZ:known.length<=1000)(r:Nat)(an:ByteArray)(anchor:Np.DSet)(han:an.data.toList=anchor.name)(tr:an.size<=140737488355328)(at' dr:Int)(x:Np.Signed)(ex:List Value)(w:World)(hR:cr w w.heap.size)(hk:SlR az 5 w w.heap.size kv known)(lX:SlR cm 3 w w.heap.size adv anchor.data)(hx:az w w.heap.size ex x) :
 Calls prog 37 #[sB kv r an anchor.type anchor.life adv at' dr,.agg ex.toArray] w (VS (Np.mY known anchor at' dr x) w):=by
 have HK:=jq hk;have nf:=jq lX;have eS:=jq hR;have gZ:=jq han;obtain⟨A,N,C,rfl,_,_,_⟩:=cE hk;obtain⟨aA,aN,aC,rfl,_,_,_⟩:=cE lX;have HXS:=jq hx;obtain⟨s,dA,dn,dc,gA,gn,gc,rfl,aP,dM,_,_,Tf,Lt⟩:=kr hx;have bU:=jq aP;have BO:=jq Tf;have OG:=jq Lt;unfold sB;obtain⟨RES,gp⟩:=aaK (Np.mY known anchor at' dr x);rw[gp];have cR:=jq gp;obtain⟨X,hX⟩:=aaK w.heap.size;have HX:=jq hX;obtain⟨w1,ah⟩:=aaK (w.alloc (.cells #[.slice A N C,.map (some r),.string an,.int .i64 anchor.type,.int .i64 anchor.life,.slice aA aN aC,.int .i64 at',.int .i64 dr] 80));obtain⟨w2,ar⟩:=aaK (w1.alloc (.cells #[.string s,.int .i64 x.set.type,.int .i64 x.set.life,.slice dA dn dc,.slice gA gn gc] 44));obtain⟨w3,bT⟩:=aaK (w2.alloc (.cells #[.string ⟨#[]⟩,.int .i64 0] 27));have z1:w1.heap.size=X+1:=by rw[<-ah,<-hX];simp
 have z2:w2.heap.size=X+1+1:=by rw[<-ar];simp[z1]
 have z3:w3.heap.size=X+1+1+1:=by rw[<-bT];simp[z2]
 have av:Below X w w1:=by rw[<-ah,<-hX];exact aG _ _
 have ae:Below w1.heap.size w1 w2:=by rw[<-ar];exact aG _ _
 have aq:Below w2.heap.size w2 w3:=by rw[<-bT];exact aG _ _
 have aw:=jq (av.trans ((ae.abQ).trans (aq.abQ)));have p1:=de (r:=[.slice A N C,.map (some r),.string an,.int .i64 anchor.type,.int .i64 anchor.life,.slice aA aN aC,.int .i64 at',.int .i64 dr]) rfl ah;have p2:=de (r:=[.string s,.int .i64 x.set.type,.int .i64 x.set.life,.slice dA dn dc,.slice gA gn gc]) rfl ar;rw[hX] at p1;rw[z1] at p2;have tn:=heap_alloc_new w2 (.cells #[.string ⟨#[]⟩,.int .i64 0] 27);rw[bT,z2] at tn;have HJ:Hid (∀ (wz:World),Below w3.heap.size w3 wz->∀ (j:Nat) u,[Value.slice A N C,.map (some r),.string an,.int .i64 anchor.type,.int .i64 anchor.life,.slice aA aN aC,.int .i64 at',.int .i64 dr][j]?=some u->wz.cell? ⟨X,j,none⟩=some u):=jq (λwz hb j u hj=>aaQ hb ((cl aq (by omega)).trans ((cl ae (by omega)).trans (p1 j u hj))));have HS:Hid (∀ (wz:World),Below w3.heap.size w3 wz->∀ (j:Nat) u,[Value.string s,.int .i64 x.set.type,.int .i64 x.set.life,.slice dA dn dc,.slice gA gn gc][j]?=some u->wz.cell? ⟨X+1,j,none⟩=some u):=jq (λwz hb j u hj=>aaQ hb ((cl aq (by omega)).trans (p2 j u hj)));have HQ:Hid (∀ wz,Below w3.heap.size w3 wz->wz.heap[X+1+1]?=some (.cells [Value.string ⟨#[]⟩,.int .i64 0].toArray 27 (0,0))):=jq (λwz hb=>(hb.block _ (by omega)).trans tn);have s0:=HS.out w3 (vQ _ _) 0 _ rfl;have s1:=HS.out w3 (vQ _ _) 1 _ rfl;have s2:=HS.out w3 (vQ _ _) 2 _ rfl;have s3:=HS.out w3 (vQ _ _) 3 _ rfl;have s4:=HS.out w3 (vQ _ _) 4 _ rfl;obtain⟨zn,Lz⟩:∃ z:ByteArray,z.data.toList=Np.cx x:=⟨⟨(Np.cx x).toArray⟩,by simp⟩;have wK:=jq Lz;have Tr:zn.size<=140737488355328:=by rw[<-bO,Lz];exact UR Lt
 clear gp tn p1 p2 av ae aq hk hR lX hx Tf Lt aP han Lz;go_enter func37,ntmps37;go_wp2_with fail;clear ah ar bT;go_wp2_with fail;refine (US s _ _ _ _ x zn wK.out w3 ((OG.out.keep dG (by rw[HX.out];exact aw.out)).more el (by have:=aw.out.size;have:=HX.out;omega))).mono ?_;rintro e w4 ⟨rfl,aE⟩;have pw:=aE.size;obtain⟨w5,aS⟩:=aaK (w4.alloc (.cells #[.string zn] 9));have aO:Below w4.heap.size w4 w5:=by rw[<-aS];exact aG _ _
 have l5:w4.heap.size<w5.heap.size:=by rw[<-aS];simp
 have zc:=de (r:=[.string zn]) rfl aS;have Jj:Hid (∀ (wz:World),Below w5.heap.size w5 wz->wz.cell? ⟨w4.heap.size,0,none⟩=some (.string zn)):=jq (λwz hb=>(hb.cell (p:=⟨w4.heap.size,0,none⟩) l5).trans (zc 0 _ rfl));have bx:=jq (aE.trans (aO.mono pw));clear s0 s1 s2 s3 s4;have s0:=HS.out w5 bx.out 0 _ rfl;have s1:=HS.out w5 bx.out 1 _ rfl;have z0:=Jj.out w5 (vQ _ _);have ccQ:=bx.out.size;clear aE aO zc;go_wp2_with fail;clear aS;go_wp2_with fail;refine (yx s zn dM Tr w5).mono ?_;rintro e w6 ⟨rfl,bE⟩;obtain⟨c1,aR⟩:=aaK (Np.bA s.data.toList zn.data.toList);rw[aR];have cN:=jq aR;have bH:=aaZ bx bE;have Nb:=jq bE;have px:=bE.size;clear s0 s1 z0 aR bE;have s0:=HS.out w6 bH.out 0 _ rfl;have s1:=HS.out w6 bH.out 1 _ rfl;have z0:=Jj.out w6 Nb.out;have hq:=HQ.out w6 bH.out;have q0:=af [_,_] hq 0 _ rfl;have q1:=af [_,_] hq 1 _ rfl;have fq:∀ i,w6.frozen? ⟨X+1+1,i,none⟩=false:=λi=>by simp[World.frozen?,hq]
 clear hq;have yF:=aaZ aw bH.out
 cases c1 with
 | false=>
  have HE:Hid (RES=(2,([],0))):=jq (by rw[<-cR.out];exact Np.bbX (by rw[<-bU.out,<-wK.out];exact cN.out));go_wp2_with fail;refine bodyPost_ret (v:=.tuple #[.int .i64 2,.agg #[.string ⟨#[]⟩,.int .i64 0]]) (by simp[results,results37,go_sem,q0,q1]) rfl ?_;exact⟨⟨#[]⟩,by rw[HE.out],by rw[HE.out],by decide,by rw[HX.out];exact (yF.out.blSe (p:=⟨X+1+1,0,none⟩) _).blSe (p:=⟨X+1+1,1,none⟩) _⟩
 | true=>
  have HU:Hid (Np.bA x.set.name (Np.cx x)=true):=jq (by rw[<-bU.out,<-wK.out];exact cN.out);by_cases bm:x.set.type=6
  case' pos=>
   have S8:(x.set.type == 6)=true:=by simpa using bm
   have fj:=jq bm;clear bm;by_cases fJ:s.data.toList=zn.data.toList
   case' pos=>
    have aSX:(s.toList == zn.toList)=true:=by rw[dQ,dQ];simpa using fJ
    have HE:Hid (RES=(2,([],0))):=jq (by
     rw[<-cR.out];exact Np.bbY (by rw[uQ fj.out,<-bU.out,<-wK.out,Bool.true_and];simpa using fJ))
    clear fJ;go_wp2_with fail;refine bodyPost_ret (v:=.tuple #[.int .i64 2,.agg #[.string ⟨#[]⟩,.int .i64 0]]) (by simp[results,results37,go_sem,q0,q1]) rfl ?_;exact⟨⟨#[]⟩,by rw[HE.out],by rw[HE.out],by decide,by rw[HX.out];exact (yF.out.blSe (p:=⟨X+1+1,0,none⟩) _).blSe (p:=⟨X+1+1,1,none⟩) _⟩
   have aSX:(s.toList == zn.toList)=false:=by rw[dQ,dQ];simpa using fJ
   have IS:Hid (RES=Np.GA known anchor at' dr x):=jq (by
    rw[<-cR.out];exact Np.TU HU.out (by rw[<-bU.out,<-wK.out,show (s.data.toList == zn.data.toList)=false by simpa using fJ,Bool.and_false]))
   clear fJ
  case' neg=>
   have S8:(x.set.type == 6)=false:=by simpa using bm
   have IS:Hid (RES=Np.GA known anchor at' dr x):=jq (by
    rw[<-cR.out];exact Np.TU HU.out (by rw[tQ bm,Bool.false_and]))
   clear bm
  all_goals
   have j0:=HJ.out w6 bH.out 0 _ rfl;have j2:=HJ.out w6 bH.out 2 _ rfl;have j3:=HJ.out w6 bH.out 3 _ rfl;have j4:=HJ.out w6 bH.out 4 _ rfl;have j5:=HJ.out w6 bH.out 5 _ rfl;have j6:=HJ.out w6 bH.out 6 _ rfl;have j7:=HJ.out w6 bH.out 7 _ rfl;go_wp2_with fail;refine (bjJ (.slice A N C) (.slice aA aN aC) known an zn anchor at' dr w6 ((eS.out.keep (by rw[HX.out];exact yF.out)).more (by have:=yF.out.size;have:=HX.out;omega)) ((HK.out.later ax aK (by rw[HX.out];exact yF.out))) gZ.out tr (nf.out.later bM bY (by rw[HX.out];exact yF.out)) Tr).mono ?_;rintro e w7 ⟨pv,pqn,rfl,r8,aVK,dU,bF⟩;rw[wK.out] at r8 dU |-;obtain⟨PX,Ka⟩:=aaK (Np.pC known anchor (Np.cx x) at' dr);rw[Ka] at r8 dU |-;have yY:=jq Ka;obtain⟨ks,⟨pq,pt⟩,pe⟩:=PX;dsimp only at r8 dU |-;obtain⟨kA,kn,kc,rfl,kY,_,_⟩:=cE dU.slr;have Ym:=jq r8;have g9:=jq dU;have qV:=bF.size;have cw:=aaZ bH bF;have D6:=jq bF;clear r8 dU kY bF Ka j0 j2 j3 j4 j5 j6 j7 s0 s1 z0 q0 q1 fq;obtain⟨w8,dX⟩:=aaK (((w7.alloc (.cells #[.slice kA kn kc] 46)).alloc (.cells #[.string pqn,.int .i64 pt] 27)).alloc (.cells #[.func (.func 94) #[] #[]] 138));obtain⟨w9,iD⟩:=aaK (w8.alloc (.map #[] 0));obtain⟨R,hR⟩:=aaK w8.heap.size;obtain⟨w10,w11,w12,w13,Le,Lf,Lg,Lh,KJ,rO,RI,ph,bWY⟩:=bdZ w8 w9 iD R hR (.func (.func 95) #[] #[.pointer (some ⟨X+1,0,none⟩),.pointer (some ⟨w4.heap.size,0,none⟩),.pointer (some ⟨w7.heap.size,0,none⟩),.pointer (some ⟨X,0,none⟩),.pointer (some ⟨w7.heap.size+1+1,0,none⟩)]) (.func (.func 97) #[] #[.pointer (some ⟨w7.heap.size+1,0,none⟩)]) (.func (.func 94) #[] #[]);have pk:(Instr.makeMap 140 none).run prog w8 = .ok (.map (some R)) w9:=by
    rw[<-iD,<-hR];simp[Instr.makeMap,Result.andThen]
   have su:w8.heap.size=w7.heap.size+1+1+1:=by rw[<-dX];simp
   have cA:Below w7.heap.size w7 w8:=by rw[<-dX];exact ((blAl).alloc (by simp) _).alloc (by simp;omega) _
   have kb:w8.cell? ⟨w7.heap.size,0,none⟩=some (.slice kA kn kc):=by rw[<-dX];simp[go_sem]
   have qb0:w8.cell? ⟨w7.heap.size+1,0,none⟩=some (.string pqn):=by rw[<-dX];simp[go_sem]
   have qb1:w8.cell? ⟨w7.heap.size+1,1,none⟩=some (.int .i64 pt):=by rw[<-dX];simp[go_sem]
   have bb:w8.cell? ⟨w7.heap.size+1+1,0,none⟩=some (.func (.func 94) #[] #[]):=by rw[<-dX];simp[go_sem]
   have bb11:=aaQ rO bb;have bb12:=aaQ RI bb;have bb13:=aaQ ph bb;have ep:=bvX w13 140 _ _ underlying140 underlying34 R _ KJ pe _ (zeroValue138 w13);have HMI:=jq KJ;have fy:Hid (Below w3.heap.size w3 w13):=jq (cw.out.trans ((cA.abQ).trans (ph.abQ)));clear KJ;have s0:=HS.out w13 fy.out 0 _ rfl;have s1:=HS.out w13 fy.out 1 _ rfl;have s2:=HS.out w13 fy.out 2 _ rfl;have s3:=HS.out w13 fy.out 3 _ rfl;have s4:=HS.out w13 fy.out 4 _ rfl;have j6:=HJ.out w13 fy.out 6 _ rfl;have j7:=HJ.out w13 fy.out 7 _ rfl;have Nd:Hid (Below w7.heap.size w7 w13):=jq (cA.trans (ph.mono (by rw[<-hR];exact cA.size)));have z0:=Jj.out w13 (Nb.out.trans ((D6.out.trans (Nd.out.mono qV)).mono px));have kb13:=aaQ ph kb;have qb130:=aaQ ph qb0;have qb131:=aaQ ph qb1;have Ea:=aaZ aw fy.out;have IT:Hid (RES=if pe=0 then (if Np.gw x (Np.cx x) ks at' dr then (1,([],0)) else (2,([],0))) else if pe=4 then (3,(pq,pt)) else (2,([],0))):=jq (by rw[IS.out,Np.GA,yY.out]);clear rO RI ph cA kb qb0 qb1 bb IS su;by_cases h0:pe=0
   case' pos=>
    subst h0;have pj:=ep;rw[show List.lookup (0:Int) _=some _ from rfl,Option.getD_some,Option.isSome_some] at pj;clear ep;have HE:Hid (RES=(if Np.gw x (Np.cx x) ks at' dr then 1 else 2,([],0))):=jq (by rw[IT.out,QbQ rfl];split<;>rfl);go_wp2_with fail;clear dX iD;go_wp2_with fail;refine (bbJ (X+1) w4.heap.size w7.heap.size X (w7.heap.size+1+1) s zn dM x.set.type x.set.life (.slice dA dn dc) (.slice gA gn gc) (.slice kA kn kc) ⟨_,_,_,rfl⟩ ⟨_,_,_,rfl⟩ ⟨_,_,_,rfl⟩ x.set.data x.sigs ks at' dr w13 ((eS.out.keep (by rw[HX.out];exact Ea.out)).more (by have:=Ea.out.size;have:=HX.out;omega)) (BO.out.later bM bY (by rw[HX.out];exact Ea.out)) (OG.out.later dG el (by rw[HX.out];exact Ea.out)) (g9.out.slr.later re At Nd.out) s0 s1 s2 s3 s4 z0 kb13 j6 j7 bb13).mono ?_;rintro e w14 ⟨rfl,uM⟩;rw[wK.out,show (⟨⟨s.data.toList,x.set.type,x.set.life,x.set.data⟩,x.sigs⟩:Np.Signed)=x by rw[bU.out]];obtain⟨KD,xh⟩:∃ KD:Int,(if Np.gw x (Np.cx x) ks at' dr then 1 else 2)=KD:=⟨_,rfl⟩;rw[xh];have ip:Hid (RES=(KD,([],0))):=jq (by rw[HE.out,xh]);clear xh s0 s1 s2 s3 s4 z0 j6 j7 kb13 qb130 qb131 bb11 bb12 bb13 pj Le Lf Lg Lh pk HE;have iW:=jq (fy.out.trans (uM.mono fy.out.size));have nG:=HQ.out w14 iW.out;have q0:=af [_,_] nG 0 _ rfl;have q1:=af [_,_] nG 1 _ rfl;have fq:∀ i,w14.frozen? ⟨X+1+1,i,none⟩=false:=λi=>by simp[World.frozen?,nG]
    have Tk:=iW.out.size;have lq14:X+1+1<w14.heap.size:=by omega
    have AT:=aaZ aw iW.out;clear nG uM;go_wp2_with fail;refine bodyPost_ret (v:=.tuple #[.int .i64 (KD),.agg #[.string ⟨#[]⟩,.int .i64 0]]) (by simp[results,results37,go_sem,q0,q1]) rfl ?_;exact⟨⟨#[]⟩,by rw[ip.out],by rw[ip.out],by decide,by rw[HX.out];exact (AT.out.blSe (p:=⟨X+1+1,0,none⟩) _).blSe (p:=⟨X+1+1,1,none⟩) _⟩
   by_cases h4:pe=4
   case' pos=>
    subst h4;have pj:=ep;rw[show List.lookup (4:Int) _=some _ from rfl,Option.getD_some,Option.isSome_some] at pj;clear ep h0;have HE:Hid (RES=(3,(pq,pt))):=jq (by rw[IT.out];rfl);go_wp2_with fail;clear dX iD;go_wp2_with fail;refine (bbK (w7.heap.size+1) pqn pt w13 qb130 qb131).mono ?_;rintro e w14 ⟨rfl,uM⟩;clear s0 s1 s2 s3 s4 z0 j6 j7 kb13 qb130 qb131 bb11 bb12 bb13 pj Le Lf Lg Lh pk;have iW:=jq (fy.out.trans (uM.mono fy.out.size));have nG:=HQ.out w14 iW.out;have q0:=af [_,_] nG 0 _ rfl;have q1:=af [_,_] nG 1 _ rfl;have fq:∀ i,w14.frozen? ⟨X+1+1,i,none⟩=false:=λi=>by simp[World.frozen?,nG]
    have Tk:=iW.out.size;have lq14:X+1+1<w14.heap.size:=by omega
    have AT:=aaZ aw iW.out;clear nG uM;go_wp2_with fail;refine bodyPost_ret (v:=.tuple #[.int .i64 (3),.agg #[.string pqn,.int .i64 pt]]) (by simp[results,results37,go_sem,q0,q1]) rfl ?_;exact⟨pqn,by rw[HE.out],by rw[HE.out];exact Ym.out,aVK,by rw[HX.out];exact (AT.out.blSe (p:=⟨X+1+1,0,none⟩) _).blSe (p:=⟨X+1+1,1,none⟩) _⟩
   have HE:Hid (RES=(2,([],0))):=jq (by rw[IT.out,Qc h0,Qc h4]);by_cases Q2:pe=31
   case' pos=>
    subst Q2;have pj:=ep;rw[show List.lookup (31:Int) _=some _ from rfl,Option.getD_some,Option.isSome_some] at pj
   case' neg=>
    by_cases h1:pe=1
    case' pos=>
     subst h1;have pj:=ep;rw[show List.lookup (1:Int) _=some _ from rfl,Option.getD_some,Option.isSome_some] at pj
    case' neg=>
     have pj:=ep;rw[List.lookup_cons,show (pe == 0)=false by simpa using h0,List.lookup_cons,show (pe == 4)=false by simpa using h4,List.lookup_cons,show (pe == 31)=false by simpa using Q2,List.lookup_cons,show (pe == 1)=false by simpa using h1,List.lookup_nil,Option.getD_none,Option.isSome_none] at pj
   all_goals
    clear ep h0 h4;go_wp2_with fail;clear dX iD;go_wp2_with fail;refine (TT w13).mono ?_;rintro e w14 ⟨rfl,uM⟩;clear s0 s1 s2 s3 s4 z0 j6 j7 kb13 qb130 qb131 bb11 bb12 bb13 pj Le Lf Lg Lh pk;have iW:=jq (fy.out.trans (uM.mono fy.out.size));have nG:=HQ.out w14 iW.out;have q0:=af [_,_] nG 0 _ rfl;have q1:=af [_,_] nG 1 _ rfl;have fq:∀ i,w14.frozen? ⟨X+1+1,i,none⟩=false:=λi=>by simp[World.frozen?,nG]
    have Tk:=iW.out.size;have lq14:X+1+1<w14.heap.size:=by omega
    have AT:=aaZ aw iW.out;clear nG uM;go_wp2_with fail;refine bodyPost_ret (v:=.tuple #[.int .i64 (2),.agg #[.string ⟨#[]⟩,.int .i64 0]]) (by simp[results,results37,go_sem,q0,q1]) rfl ?_;exact⟨⟨#[]⟩,by rw[HE.out],by rw[HE.out],by decide,by rw[HX.out];exact (AT.out.blSe (p:=⟨X+1+1,0,none⟩) _).blSe (p:=⟨X+1+1,1,none⟩) _⟩
end
section
open Go.RowKit Go.Shelf
attribute [local go_sem] Oper.semAt_some
theorem bcQ(kv adv:Value)(r:Nat)(an n:ByteArray)(aty al at' dr t:Int)(w:World)(hk:∃ A n c,kv = .slice A n c)(ha:∃ A n c,adv = .slice A n c) :
 Calls prog 36 #[sB kv r an aty al adv at' dr,.agg #[.string n,.int .i64 t]] w λe w'=>e = .returned (.func (.func 90) #[] #[.pointer (some ⟨w.heap.size,0,none⟩),.pointer (some ⟨w.heap.size+1,0,none⟩)])/\
  w'=(w.alloc (.cells #[kv,.map (some r),.string an,.int .i64 aty,.int .i64 al,adv,.int .i64 at',.int .i64 dr] 80)).alloc (.cells #[.string n,.int .i64 t] 27):=by
 obtain⟨A,N,C,rfl⟩:=hk;obtain⟨aA,aN,aC,rfl⟩:=ha;unfold sB;go_enter func36,ntmps36;go_wp2_with fail;go_ret;exact⟨rfl,rfl⟩
theorem auK:∀ args w,(callFunc 90 args).run prog w = .ok (.enter 90 args) w:=enters_of func90 (by kernel_rfl) rfl
theorem Mc{α:Type}{R:aDQ α}{sz B:Nat}{w w':World}{v:Value}{xs:List α}(h:SlR R sz w B v xs)(he:w'.heap=w.heap)(hR:∀ e x,R w B e x->R w' B e x):SlR R sz w' B v xs:=by
 obtain⟨A,c,h1,h2,h3,h4⟩:=h;refine⟨A,c,h1,h2,h3,λi x hx=>?_⟩;obtain⟨b,o,e,h5,h6,h7,h8,h9⟩:=h4 i x hx;exact⟨b,o,e,h5,h6,h7,λj u hj=>(iQ (a:=⟨b,o+i * sz+j,none⟩) (by rw[he])).trans (h8 j u hj),hR e x h9⟩
theorem bAX{α:Type}{R:aDQ α}{sz B:Nat}{w:World}{A:Option Addr}{n c:Nat}{xs:List α}(h:SlR R sz w B (.slice A n c) xs):xs.length=n:=by
 obtain⟨A',c',h1,_⟩:=h;simp only[Value.slice.injEq] at h1;exact h1.2.1.symm
theorem bBQ{α:Type}{R:aDQ α}{sz B:Nat}{w:World}{A:Option Addr}{n c:Nat}{xs:List α}(h:SlR R sz w B (.slice A n c) xs):n<=140737488355328:=by
 obtain⟨A',c',h1,_,h2,_⟩:=h;simp only[Value.slice.injEq] at h1;omega
def BW(W:World)(B:Nat)(v:List Value):Np.Found->Prop
 | .set s=>∃ e,az W B e s/\v = [.int .i64 0]++e ++ [.string ⟨#[]⟩,.int .i64 0]
 | .miss n t=>∃ qn:ByteArray,qn.data.toList=n/\qn.size<=140737488355328/\v = [.int .i64 1,.string ⟨#[]⟩,.int .i64 0,.int .i64 0,.slice none 0 0,.slice none 0 0,.string qn,.int .i64 t]
 | .loop=>v = [.int .i64 2,.string ⟨#[]⟩,.int .i64 0,.int .i64 0,.slice none 0 0,.slice none 0 0,.string ⟨#[]⟩,.int .i64 0]
abbrev FV:=List Value×Np.Found
def wM(LS:List Np.Found)(w:World)(B:Nat)(L:List FV):Prop:=L.map (·.2) <+: LS/\∀ x∈L,BW w B x.1 x.2
def PJ(LS:List Np.Found)(w:World)(B:Nat)(L:List FV):Prop:=L.map (·.2)=LS/\∀ x∈L,BW w B x.1 x.2
theorem wM.add{LS:List Np.Found}{w:World}{B:Nat}{pre:List FV}{v:List Value}{f:Np.Found}{rest:List Np.Found}(h:wM LS w B pre)(hf:BW w B v f)(he:LS=pre.map (·.2)++f::rest):wM LS w B (pre ++ [(v,f)]):=by
 refine⟨?_,λx hx=>?_⟩
 ·rw[he,List.map_append];exact⟨rest,by simp⟩
 ·rcases List.mem_append.1 hx with hx | hx
  ·exact h.2 x hx
  ·rw[List.mem_singleton.1 hx];exact hf
theorem wM.fin{LS:List Np.Found}{w:World}{B:Nat}{pre:List FV}(h:wM LS w B pre)(he:LS=pre.map (·.2)):PJ LS w B pre:=⟨he.symm,h.2⟩
def LkTo(known:List Np.Signed)(t:Int)(LS:List Np.Found)(cur:List UInt8)(k:Nat)(pre:List FV):Prop:=k<=8/\Np.ai cur=true/\LS=pre.map (·.2)++Np.lx known t (8 - k) cur
def aeQ(known:List Np.Signed)(t:Int)(LS:List Np.Found)(wk w0:World)(B bj bq r:Nat)(kvs:List ((List UInt8×Int)×Value))(cjo:Obj)(J:List FV->(Nat->Prop)->World->Prop)(S:Nat->Prop)(W:World)(v:Value)(wr:World):Prop:=
 ∃ (cur:ByteArray) (k:Nat) (pre:List FV) (S1:Nat->Prop),v = .int .i64 k/\LkTo known t LS cur.data.toList k pre/\wM LS wk B pre/\cur.size<=60/\wr.heap[bq]?=some (.cells [Value.string cur,.int .i64 t].toArray 27 (0,0))/\wr.heap[bj]?=some cjo/\J pre S1 wr/\(∀ i,S1 i->i<wr.heap.size)/\(∀ i,S1 i->S i\/W.heap.size<=i)/\W.heap.size<=wr.heap.size/\Below B w0 wr/\fB r kvs wr
theorem L9{w w':World}{B:Nat}{e:List Value}{x:Np.Signed}(h:az w B e x)(he:w'.heap=w.heap):az w' B e x:=by
 obtain⟨s,v,u,h1,h2,h3,h4,h5⟩:=h;exact⟨s,v,u,h1,h2,Mc h3 he (λe x hr=>hr),Mc h4 he (λe x hr=>hr),h5⟩
theorem DO{α:Type}{R:aDQ α}{sz B:Nat}{w w':World}{v:Value}{xs:List α}(h:SlR R sz w' B v xs)(hb:Below B w w')(hR:∀ e x,R w' B e x->R w B e x):SlR R sz w B v xs:=by
 obtain⟨A,c,h1,h2,h3,h4⟩:=h;refine⟨A,c,h1,h2,h3,λi x hx=>?_⟩;obtain⟨b,o,e,h5,h6,h7,h8,h9⟩:=h4 i x hx;exact⟨b,o,e,h5,h6,h7,λj u hj=>(hb.cell (p:=⟨b,o+i * sz+j,none⟩) h6).symm.trans (h8 j u hj),hR e x h9⟩
theorem btQ{w w':World}{B:Nat}{e:List Value}{x:Np.Signed}(h:az w' B e x)(hb:Below B w w'):az w B e x:=by
 obtain⟨s,v,u,h1,h2,h3,h4,h5⟩:=h;exact⟨s,v,u,h1,h2,DO h3 hb (λe x hr=>hr),DO h4 hb (λe x hr=>hr),h5⟩
end
section
open Go.RowKit Go.Shelf
attribute [local go_sem] Oper.semAt_some
theorem wS(a l m:Int)(w:World):Calls prog 180 #[.int .i64 a,.int .i64 l,.int .i64 m] w λe w'=>e = .returned (.bool (decide (l<=a)&&decide (a<=m)))/\w'=w:=by
 go_enter func180,ntmps180;by_cases h:l<=a
 ·have h1:decide (l<=a)=true:=uQ h;rw[h1];go_wp2_with fail;go_ret;exact⟨rfl,rfl⟩
 ·have h1:decide (l<=a)=false:=tQ h;rw[h1];go_wp2_with fail;go_ret;exact⟨rfl,rfl⟩
theorem byZ(x:Np.Sig)(e:List Value)(w:World)(he:en w w.heap.size e x) :
 Calls prog 283 #[.agg e.toArray] w λe w'=>e = .returned (.bool (Np.jN x))/\Below w.heap.size w w':=by
 obtain⟨z,hz,gd,rfl⟩:=he;obtain⟨X,hX⟩:=aaK w.heap.size;obtain⟨w1,ah⟩:=aaK (w.alloc (.cells #[.string z,.int .i64 x.key,.int .i64 x.alg,.int .i64 x.frm,.int .i64 x.til,.int .u64 x.sum] 56));have hb:Below w.heap.size w w1:=by rw[<-ah];exact aG _ _
 have bG:w1.heap.size=X+1:=by rw[<-ah,<-hX];simp
 have p:=de (r:=[.string z,.int .i64 x.key,.int .i64 x.alg,.int .i64 x.frm,.int .i64 x.til,.int .u64 x.sum]) hX ah;have k0:=p 0 _ rfl;obtain⟨R9,bZ⟩:=aaK (Np.jN x);rw[bZ];unfold Np.jN at bZ;have bP:=jq bZ;clear bZ;have HZ:=jq hz;have ay:=jq hb;have HP:=jq p;clear hb hz p;go_enter func283,ntmps283;go_wp2_with fail;clear ah;go_wp2_with fail;refine (nameValid_any z gd w1).mono ?_;rintro e w2 ⟨rfl,ae⟩;have am:=aaZ ay ae;have k1:=aaQ ae (HP.out 1 _ rfl);have k2:=aaQ ae (HP.out 2 _ rfl);have k3:=aaQ ae (HP.out 3 _ rfl);have k4:=aaQ ae (HP.out 4 _ rfl);clear ae k0;obtain⟨c1,aR⟩:=aaK (Np.ai z.data.toList);rw[aR];have cN:Hid (Np.ai x.zone=c1):=jq (by rw[<-HZ.out];exact aR);clear aR
 cases c1 with
 | false=>
  go_wp2_with fail;go_ret;exact⟨aj (by rw[<-bP.out,cN.out];simp),am.out⟩
 | true=>
  go_wp2_with fail;refine (wS x.key 1 1000000 w2).mono ?_;rintro e w3 ⟨rfl,bT⟩;subst w3;obtain⟨c2,cH⟩:=aaK (decide (1<=x.key)&&decide (x.key<=1000000));rw[cH];have dH:=jq cH;clear cH
  cases c2 with
  | false=>
   go_wp2_with fail;go_ret;exact⟨aj (by rw[<-bP.out,cN.out,dH.out];simp),am.out⟩
  | true=>
   go_wp2_with fail;refine (wS x.alg 1 3 w2).mono ?_;rintro e w3 ⟨rfl,bT⟩;subst w3;obtain⟨c3,nB⟩:=aaK (decide (1<=x.alg)&&decide (x.alg<=3));rw[nB];have gj:=jq nB;clear nB
   cases c3 with
   | false=>
    go_wp2_with fail;go_ret;exact⟨aj (by rw[<-bP.out,cN.out,dH.out,gj.out];simp),am.out⟩
   | true=>
    by_cases h4:0<=x.frm
    case neg=>
     have h4':decide (0<=x.frm)=false:=tQ h4;have H4:=jq h4';go_wp2_with fail;go_ret;exact⟨aj (by rw[<-bP.out,cN.out,dH.out,gj.out,H4.out];simp),am.out⟩
    have h4':decide (0<=x.frm)=true:=uQ h4;have H4:=jq h4';by_cases h5:x.frm<=x.til
    case neg=>
     have h5':decide (x.frm<=x.til)=false:=tQ h5;have H5:=jq h5';go_wp2_with fail;go_ret;exact⟨aj (by rw[<-bP.out,cN.out,dH.out,gj.out,H4.out,H5.out];simp),am.out⟩
    have h5':decide (x.frm<=x.til)=true:=uQ h5;have H5:=jq h5';go_wp2_with fail;go_ret;exact⟨aj (by rw[<-bP.out,cN.out,dH.out,gj.out,H4.out,H5.out];simp),am.out⟩
theorem awZ:∀ args w,(callFunc 282 args).run prog w = .ok (.enter 282 args) w:=enters_of func282 (by kernel_rfl) rfl
theorem atK:∀ args w,(callFunc 248 args).run prog w = .ok (.enter 248 args) w:=enters_of func248 (by kernel_rfl) rfl
theorem bBY(x:Np.Sig)(e:List Value)(w:World)(he:en w w.heap.size e x) :
 Calls prog 282 #[.agg e.toArray] w (aCX w.heap.size w (.bool (!Np.jN x))):=by
 obtain⟨z,hz,gd,rfl⟩:=he;have HZ:=jq hz;clear hz;go_enter func282,ntmps282;go_wp2_with fail;refine (byZ x [.string z,.int .i64 x.key,.int .i64 x.alg,.int .i64 x.frm,.int .i64 x.til,.int .u64 x.sum] _ ⟨z,HZ.out,gd,rfl⟩).mono ?_;rintro e w2 ⟨rfl,hb⟩;have HB:=jq ((aG w _).trans (hb.mono (by simp)));clear hb;go_wp2_with fail;go_ret;exact⟨rfl,HB.out⟩
theorem bAZ(x:Np.Signed)(e:List Value)(w:World)(hR:cr w w.heap.size)(he:az w w.heap.size e x) :
 Calls prog 249 #[.agg e.toArray] w λe w'=>e = .returned (.bool (Np.gW x))/\Below w.heap.size w w':=by
 obtain⟨s,dA,dn,dc,gA,gn,gc,rfl,hs,aB,_,mO,hd,hg⟩:=kr he;obtain⟨X,hX⟩:=aaK w.heap.size;obtain⟨w1,ah⟩:=aaK (w.alloc (.cells #[.string s,.int .i64 x.set.type,.int .i64 x.set.life,.slice dA dn dc,.slice gA gn gc] 44));have hb:Below w.heap.size w w1:=by rw[<-ah];exact aG _ _
 have bG:w1.heap.size=X+1:=by rw[<-ah,<-hX];simp
 have p:=de (r:=[.string s,.int .i64 x.set.type,.int .i64 x.set.life,.slice dA dn dc,.slice gA gn gc]) hX ah;have k0:=p 0 _ rfl;have k1:=p 1 _ rfl;have k2:=p 2 _ rfl;have k3:=p 3 _ rfl;have k4:=p 4 _ rfl;have HS:=jq hs;have HD:=jq (hd.later bM bY hb);have HG:=jq (hg.later dG el hb);have HR:=jq ((hR.keep hb).more hb.size);have ay:=jq hb;have HP:=jq p;have Bh:=jq mO;have nE:gn<=140737488355328:=bBQ hg;obtain⟨R9,bZ⟩:=aaK (Np.gW x);rw[bZ];unfold Np.gW at bZ;rw[mO] at bZ;have bP:=jq bZ;clear hb hs p hd hg hR he mO bZ;go_enter func249,ntmps249;by_cases h6:gn<=6
 case neg=>
  have h6':decide (6<gn)=true:=adQ;have JV:decide ((6:Int)<(gn:Int))=true:=adQ;have H6:=jq (tQ h6);go_wp2_with fail;clear ah;go_wp2_with fail;go_ret;exact⟨aj (by rw[<-bP.out,H6.out];simp),ay.out⟩
 have h6':decide (6<gn)=false:=acY;have JV:decide ((6:Int)<(gn:Int))=false:=acY;have H6:=jq (uQ h6);go_wp2_with fail;clear ah;go_wp2_with fail;refine (sH s aB x.set.type x.set.life _ x.set.data w1 HR.out HD.out).mono ?_;rintro e w2 ⟨rfl,ae⟩;rw[show (⟨s.data.toList,x.set.type,x.set.life,x.set.data⟩:Np.DSet)=x.set by rw[HS.out]];have am:=aaZ ay ae;have lD:=jq (HG.out.later dG el ae);have q4:=aaQ ae (HP.out 4 _ rfl);clear ae k0 k1 k2 k3 k4;obtain⟨c1,aR⟩:=aaK (Np.bi x.set);rw[aR];have cN:=jq aR;clear aR
 cases c1 with
 | false=>
  go_wp2_with fail;go_ret;exact⟨aj (by rw[<-bP.out,H6.out,cN.out];simp),am.out⟩
 | true=>
  go_wp2_with fail;refine (aoK dG 282 awZ #[] (λg:Np.Sig=>!Np.jN g) _ x.sigs w2 w2.heap.size (bQ _) lD.out ?_).mono ?_
  ·intro W y e0 e1 e2 e3 e4 e5 hy hW pf Cv;exact bBY y _ W (el _ _ _ _ _ Cv hW.size)
  rintro e w3 ⟨rfl,hb⟩;have aw:=jq (am.out.trans (hb.mono am.out.size));clear hb;go_wp2_with fail;go_ret;exact⟨aj (by rw[<-bP.out,H6.out,cN.out,List.not_any_eq_all_not];simp),aw.out⟩
theorem aiX(x:Np.Signed)(e:List Value)(w:World)(hR:cr w w.heap.size)(he:az w w.heap.size e x) :
 Calls prog 248 #[.agg e.toArray] w (aCX w.heap.size w (.bool (!Np.gW x))):=by
 have HE:=jq he;have HR:=jq hR;obtain⟨s,dA,dn,dc,gA,gn,gc,rfl,_,_,_,_,_,_⟩:=kr he;clear he hR;go_enter func248,ntmps248;go_wp2_with fail;refine (bAZ x [.string s,.int .i64 x.set.type,.int .i64 x.set.life,.slice dA dn dc,.slice gA gn gc] _ ((HR.out.keep (aG w _)).more (by simp)) (aK _ _ _ _ _ (ax _ _ _ _ _ HE.out (aG w _)) (by simp))).mono ?_;rintro e w2 ⟨rfl,hb⟩;have HB:=jq ((aG w _).trans (hb.mono (by simp)));clear hb;go_wp2_with fail;go_ret;exact⟨rfl,HB.out⟩
def oW(W:World)(B:Nat)(e:List Value)(a:Np.Ans):Prop:=∃ (v:Value) (c:ByteArray),SlR az 5 W B v a.sets/\c.data.toList=a.cut/\c.size<=140737488355328/\e = [.int .i64 a.kind,v,.string c]
theorem DE:dR oW:=λ_ _ _ _ _ ⟨v,c,h1,h2,h3,h4⟩ hb=>⟨v,c,h1.keep ax hb,h2,h3,h4⟩
theorem DF:ef oW:=λ_ _ _ _ _ ⟨v,c,h1,h2,h3,h4⟩ hb=>⟨v,c,h1.more aK hb,h2,h3,h4⟩
theorem biY(a:Np.Ans)(e:List Value)(w:World)(hR:cr w w.heap.size)(he:oW w w.heap.size e a) :
 Calls prog 181 #[.agg e.toArray] w λe w'=>e = .returned (.bool (Np.ib a))/\Below w.heap.size w w':=by
 obtain⟨v,c,hv,hc,hcs,rfl⟩:=he;obtain⟨A,N,C,rfl,hN,_,Fv⟩:=cE hv;obtain⟨X,hX⟩:=aaK w.heap.size;obtain⟨w1,ah⟩:=aaK (w.alloc (.cells #[.int .i64 a.kind,.slice A N C,.string c] 29));have hb:Below w.heap.size w w1:=by rw[<-ah];exact aG _ _
 have bG:w1.heap.size=X+1:=by rw[<-ah,<-hX];simp
 have p:=de (r:=[.int .i64 a.kind,.slice A N C,.string c]) hX ah;have k0:=p 0 _ rfl;have k1:=p 1 _ rfl;have k2:=p 2 _ rfl;have HV:=jq (hv.later ax aK hb);have HR:=jq ((hR.keep hb).more hb.size);have ay:=jq hb;have HP:=jq p;have HN:=jq hN;have HC:=jq hc;obtain⟨R9,bZ⟩:=aaK (Np.ib a);rw[bZ];unfold Np.ib at bZ;rw[hN,show a.sets.all Np.gW=!(a.sets.any λg=>!Np.gW g) by rw[List.not_any_eq_all_not];simp] at bZ;have bP:=jq bZ;clear hb p hv hR hN hc bZ;go_enter func181,ntmps181;go_wp2_with fail;clear ah;go_wp2_with fail;refine (wS a.kind 1 7 w1).mono ?_;rintro e w2 ⟨rfl,ar⟩;subst w2;obtain⟨c1,aR⟩:=aaK (decide (1<=a.kind)&&decide (a.kind<=7));rw[aR];have cN:=jq aR;clear aR
 cases c1 with
 | false=>
  go_wp2_with fail;go_ret;exact⟨aj (by rw[<-bP.out,cN.out];simp),ay.out⟩
 | true=>
  by_cases h4:N<=40
  case neg=>
   have h4':decide (40<N)=true:=adQ;have h4i:decide ((40:Int)<(N:Int))=true:=adQ;have H4:=jq (tQ h4);go_wp2_with fail;go_ret;exact⟨aj (by rw[<-bP.out,cN.out,H4.out];simp),ay.out⟩
  have h4':decide (40<N)=false:=acY;have h4i:decide ((40:Int)<(N:Int))=false:=acY;have H4:=jq (uQ h4);go_wp2_with fail;refine (Qg ax 248 atK #[] (λg:Np.Signed=>!Np.gW g) _ a.sets w1 w1.heap.size (bQ _) HV.out ?_).mono ?_
  ·intro W y e hy hW pf Cv;exact aiX y _ W ((HR.out.keep hW).more hW.size) (aK _ _ _ _ _ Cv hW.size)
  rintro e w3 ⟨rfl,hb⟩;have aw:=jq (ay.out.trans (hb.mono ay.out.size));have q0:=aaQ hb (HP.out 0 _ rfl);have q2:=aaQ hb (HP.out 2 _ rfl);obtain⟨c2,cH⟩:=aaK (a.sets.any λg=>!Np.gW g);rw[cH];have dH:=jq cH;clear cH hb k0 k1 k2
  cases c2 with
  | true=>
   go_wp2_with fail;go_ret;exact⟨aj (by rw[<-bP.out,cN.out,H4.out,dH.out];simp),aw.out⟩
  | false=>
   by_cases hk:a.kind=4
   ·have hk':(a.kind == 4)=true:=by simpa using hk
    have Bn:=jq hk;have bR:=aw.out.size;clear hk;go_wp2_with fail;refine (nameValid_any c hcs w3).mono ?_;rintro e w4 ⟨rfl,aE⟩;have aX:=jq (aw.out.trans (aE.mono bR));clear aE;rw[HC.out];go_wp2_with fail;go_ret;exact⟨aj (by rw[<-bP.out,cN.out,H4.out,dH.out,QbQ Bn.out];simp),aX.out⟩
   ·have hk':(a.kind == 4)=false:=by simpa using hk
    have Bn:=jq hk;clear hk;go_wp2_with fail;go_ret;exact⟨aj (by rw[<-bP.out,cN.out,H4.out,dH.out,Qc Bn.out,<-HC.out,dQ];simp),aw.out⟩
end
section
open Go.RowKit Go.Shelf
attribute [local go_sem] Oper.semAt_some
theorem LZ(s:ByteArray):(2<=s.size->((s.extract 0 2).toList == [42,46]) = [42,46].isPrefixOf s.data.toList)/\(s.size<2->[42,46].isPrefixOf s.data.toList=false):=by
 have h:=Lib.hasPrefix_raw s ⟨#[42,46]⟩;have hp:(⟨#[42,46]⟩:ByteArray).size=2:=rfl;rw[hp] at h;unfold Lib.hasPrefix at h;refine⟨λh2=>?_,λh2=>?_⟩
 ·rw[uQ h2,Bool.true_and] at h;rw[<-h,dQ (⟨#[42,46]⟩:ByteArray)]
 ·rw[acY,Bool.false_and] at h;exact h.symm
theorem aIK(s:ByteArray)(hs:s.size<=140737488355328)(w:World) :
 Calls prog 49 #[.string s,.string ⟨#[42,46]⟩] w λe w'=>e = .returned (.bool ([42,46].isPrefixOf s.data.toList))/\w'=w:=by
 have H:=jq (LZ s);go_enter func49,ntmps49;go_wp2
 ·go_ret;exact⟨aj (H.out.1 (by omega)),rfl⟩
 ·go_ret;exact⟨aj (H.out.2 (by omega)).symm,rfl⟩
theorem aqJ(s:ByteArray)(hs:s.size<=140737488355328)(w:World) :
 Calls prog 182 #[.string s,.string ⟨#[42,46]⟩] w λe w'=>(∃ r:ByteArray,e = .returned (.tuple #[.string r,.bool ([42,46].isPrefixOf s.data.toList)])/\r.size<=140737488355328/\([42,46].isPrefixOf s.data.toList=true->r.data.toList=s.data.toList.drop 2))/\w'=w:=by
 obtain⟨b,hb⟩:∃ b,[42,46].isPrefixOf s.data.toList=b:=⟨_,rfl⟩;rw[hb];by_cases hz:2<=s.size
 ·have h2:=(LZ s).1 hz;rw[hb] at h2;clear hb
  cases b with
  | false=>
   go_enter func182,ntmps182;go_wp2
   ·go_ret2;exact⟨⟨s,rfl,hs,λh=>by cases h⟩,rfl⟩
   ·exfalso;omega
  | true=>
   go_enter func182,ntmps182;go_wp2
   ·go_ret2;exact⟨⟨s.extract 2 s.size,rfl,by simp;omega,λ_=>Fh s 2⟩,rfl⟩
   ·exfalso;omega
 ·have h2:=(LZ s).2 (by omega);rw[hb] at h2;subst h2;clear hb;go_enter func182,ntmps182;go_wp2;go_ret2;exact⟨⟨s,rfl,hs⟩,rfl⟩
theorem bRQ(s:ByteArray)(hs:s.size<=140737488355328)(w:World) :
 Calls prog 42 #[.string s] w (aCX w.heap.size w (.bool (Np.uf s.data.toList))):=by
 obtain⟨R9,bZ⟩:=aaK (Np.uf s.data.toList);rw[bZ];unfold Np.uf at bZ;have bP:=jq bZ;clear bZ;go_enter func42,ntmps42;go_wp2_with fail;refine (nameValid_any s hs w).mono ?_;rintro e w2 ⟨rfl,ae⟩;have am:=jq ae;clear ae;obtain⟨c1,aR⟩:=aaK (Np.ai s.data.toList);rw[aR];have cN:=jq aR;clear aR
 cases c1 with
 | false=>
  go_wp2_with fail;go_ret;exact⟨aj (by rw[<-bP.out,cN.out];simp),am.out⟩
 | true=>
  by_cases h4:s.data.toList = [42]
  case pos=>
   have h4':(s.toList == [42])=true:=by rw[dQ,h4];rfl
   have H4:=jq h4;clear h4;go_wp2_with fail;go_ret;exact⟨aj (by rw[<-bP.out,cN.out,H4.out];simp),am.out⟩
  have h4':(s.toList == [42])=false:=by rw[dQ];simpa using h4
  have H4:Hid ((s.data.toList != [42])=true):=jq (by simpa using h4);clear h4;go_wp2_with (go_at_call 49;refine (aIK s hs _).mono ?_;rintro e w' ⟨rfl,rfl⟩);go_ret;exact⟨aj (by rw[<-bP.out,cN.out,H4.out];simp),am.out⟩
theorem PZ(s z:ByteArray)(hs:s.size<=140737488355328)(hz:z.size<=140737488355328)(w:World) :
 Calls prog 183 #[.string s,.string z] w (aCX w.heap.size w (.bool (Np.p9 s.data.toList z.data.toList))):=by
 obtain⟨R9,bZ⟩:=aaK (Np.p9 s.data.toList z.data.toList);rw[bZ];unfold Np.p9 at bZ;have bP:=jq bZ;clear bZ;go_enter func183,ntmps183;by_cases h4:s.data.toList=z.data.toList
 case pos=>
  have h4':(s.toList == z.toList)=true:=by rw[dQ,dQ,h4];simp
  have H4:=jq h4;clear h4;go_wp2_with fail;go_ret;exact⟨aj (by rw[<-bP.out,H4.out];simp),vQ _ _⟩
 have h4':(s.toList == z.toList)=false:=by rw[dQ,dQ];simpa using h4
 have H4:Hid ((s.data.toList != z.data.toList)=true):=jq (by simpa using h4);clear h4;go_wp2_with fail;refine (yx s z hs hz w).mono ?_;rintro e w2 ⟨rfl,hb⟩;have HB:=jq hb;clear hb;go_wp2_with fail;go_ret;exact⟨aj (by rw[<-bP.out,H4.out];simp),HB.out⟩
theorem Vr(s z:ByteArray)(hs:s.size<=140737488355328)(hz:z.size<=140737488355328)(w:World) :
 Calls prog 112 #[.string s,.string z] w (aCX w.heap.size w (.bool (Np.ku s.data.toList z.data.toList))):=by
 obtain⟨R9,bZ⟩:=aaK (Np.ku s.data.toList z.data.toList);rw[bZ];unfold Np.ku at bZ;have bP:=jq bZ;clear bZ;go_enter func112,ntmps112;by_cases h4:s.data.toList = [42]
 case pos=>
  have h4':(s.toList == [42])=true:=by rw[dQ,h4];rfl
  have H4:=jq h4;clear h4;go_wp2_with fail;go_ret;exact⟨aj (by rw[<-bP.out,QbQ H4.out,dQ];rfl),vQ _ _⟩
 have h4':(s.toList == [42])=false:=by rw[dQ];simpa using h4
 have H4:=jq h4;clear h4;go_wp2_with fail;refine (aqJ s hs w).mono ?_;rintro e w' ⟨⟨r,rfl,SR,hr⟩,rfl⟩;have HR:=jq hr;clear hr;obtain⟨b,hb⟩:∃ b,[42,46].isPrefixOf s.data.toList=b:=⟨_,rfl⟩;rw[hb];have HB:=jq hb;clear hb
 cases b with
 | false=>
  go_wp2_with fail;go_ret;exact⟨aj (by rw[<-bP.out,Qc H4.out,HB.out];simp),vQ _ _⟩
 | true=>
  go_wp2_with fail;refine (PZ z r hz SR _).mono ?_;rintro e w2 ⟨rfl,hb⟩;have am:=jq hb;clear hb;go_wp2_with fail;go_ret;exact⟨aj (by rw[<-bP.out,Qc H4.out,HB.out,<-HR.out HB.out];simp),am.out⟩
end
section
open Go.RowKit Go.Shelf Go.MapKept
attribute [local go_sem] Oper.semAt_some
def kL(rv:Value)(p:Np.DSet->Bool)(w:World):Prop:=∃ (f:FuncId) (cap:Array Value),rv = .func (.func f) #[] cap/\(∀ args w,(callFunc f args).run prog w = .ok (.enter f args) w)/\
 ∀ (W:World) (e:List Value) (x:Np.DSet),Below w.heap.size w W->iw W W.heap.size e x->Calls prog f (#[.agg e.toArray]++cap) W λe' W'=>e' = .returned (.bool (p x))/\Below W.heap.size W W'
theorem kL.keep{rv:Value}{p:Np.DSet->Bool}{w w':World}(h:kL rv p w)(hb:Below w.heap.size w w'):kL rv p w':=by
 obtain⟨f,cap,h1,h2,h3⟩:=h;exact⟨f,cap,h1,h2,λW e x hW he=>h3 W e x (hb.trans (hW.mono hb.size)) he⟩
theorem avQ:∀ args w,(callFunc 109 args).run prog w = .ok (.enter 109 args) w:=enters_of func109 (by kernel_rfl) rfl
theorem btZ(Q:Nat)(qn:ByteArray)(qt:Int)(dV:qn.size<=140737488355328)(w:World)(hq:w.heap[Q]?=some (.cells [Value.string qn,.int .i64 qt].toArray 27 (0,0)))(x:Np.DSet)(e:List Value)(he:iw w w.heap.size e x) :
 Calls prog 109 #[.agg e.toArray,.pointer (some ⟨Q,0,none⟩)] w λe w'=>e = .returned (.bool (decide (x.type=8)||(decide (x.type=4)&&Np.bA qn.data.toList x.name)))/\Below w.heap.size w w':=by
 obtain⟨s,v,hs,aB,hd,rfl⟩:=he;obtain⟨vA,vn,vc,rfl,_,_,_⟩:=cE hd;obtain⟨X,hX⟩:=aaK w.heap.size;obtain⟨w1,ah⟩:=aaK (w.alloc (.cells #[.string s,.int .i64 x.type,.int .i64 x.life,.slice vA vn vc] 25));have hb:Below w.heap.size w w1:=by rw[<-ah];exact aG _ _
 have bG:w1.heap.size=X+1:=by rw[<-ah,<-hX];simp
 have p:=de (r:=[.string s,.int .i64 x.type,.int .i64 x.life,.slice vA vn vc]) hX ah;have k0:=p 0 _ rfl;have k1:=p 1 _ rfl;have HS:=jq hs;have ay:=jq hb;have gI:=(hb.block Q (eQ.1 hq).1).trans hq;have q0:=af _ gI 0 _ rfl;have q1:=af _ gI 1 _ rfl;clear hq gI;obtain⟨R9,bZ⟩:=aaK (decide (x.type=8)||(decide (x.type=4)&&Np.bA qn.data.toList x.name));rw[bZ];have bP:=jq bZ;clear hb hs hd p bZ;go_enter func109,ntmps109;by_cases h8:x.type=8
 case pos=>
  have h8':(x.type == 8)=true:=by simpa using h8
  have H8:=jq h8;clear h8;go_wp2_with fail;clear ah;go_wp2_with fail;go_ret;exact⟨aj (by rw[<-bP.out,uQ H8.out];simp),ay.out⟩
 have h8':(x.type == 8)=false:=by simpa using h8
 have H8:=jq h8;clear h8;by_cases h4:x.type=4
 case pos=>
  have h4':(x.type == 4)=true:=by simpa using h4
  have H4:=jq h4;clear h4;go_wp2_with fail;clear ah;go_wp2_with fail;refine (yx qn s dV aB w1).mono ?_;rintro e w2 ⟨rfl,ae⟩;have am:=aaZ ay ae;clear ae;rw[HS.out];go_wp2_with fail;go_ret;exact⟨aj (by rw[<-bP.out,tQ H8.out,uQ H4.out];simp),am.out⟩
 have h4':(x.type == 4)=false:=by simpa using h4
 have H4:=jq h4;clear h4;go_wp2_with fail;clear ah;go_wp2_with fail;go_ret;exact⟨aj (by rw[<-bP.out,tQ H8.out,tQ H4.out];simp),ay.out⟩
theorem avZ:∀ args w,(callFunc 110 args).run prog w = .ok (.enter 110 args) w:=enters_of func110 (by kernel_rfl) rfl
theorem btJ(Q:Nat)(qn:ByteArray)(qt:Int)(dV:qn.size<=140737488355328)(w:World)(hq:w.heap[Q]?=some (.cells [Value.string qn,.int .i64 qt].toArray 27 (0,0)))(x:Np.DSet)(e:List Value)(he:iw w w.heap.size e x) :
 Calls prog 110 #[.agg e.toArray,.pointer (some ⟨Q,0,none⟩)] w λe w'=>e = .returned (.bool (x.name == qn.data.toList&&decide (x.type=qt)))/\Below w.heap.size w w':=by
 obtain⟨s,v,hs,aB,hd,rfl⟩:=he;obtain⟨vA,vn,vc,rfl,_,_,_⟩:=cE hd;obtain⟨X,hX⟩:=aaK w.heap.size;obtain⟨w1,ah⟩:=aaK (w.alloc (.cells #[.string s,.int .i64 x.type,.int .i64 x.life,.slice vA vn vc] 25));have hb:Below w.heap.size w w1:=by rw[<-ah];exact aG _ _
 have bG:w1.heap.size=X+1:=by rw[<-ah,<-hX];simp
 have p:=de (r:=[.string s,.int .i64 x.type,.int .i64 x.life,.slice vA vn vc]) hX ah;have k0:=p 0 _ rfl;have k1:=p 1 _ rfl;have HS:=jq hs;have ay:=jq hb;have gI:=(hb.block Q (eQ.1 hq).1).trans hq;have q0:=af _ gI 0 _ rfl;have q1:=af _ gI 1 _ rfl;clear hq gI;obtain⟨R9,bZ⟩:=aaK (x.name == qn.data.toList&&decide (x.type=qt));rw[bZ];have bP:=jq bZ;clear hb hs hd p bZ;go_enter func110,ntmps110;by_cases hn:x.name=qn.data.toList
 case neg=>
  have hn':(s.toList == qn.toList)=false:=by rw[dQ,dQ,HS.out];simpa using hn
  have HN:Hid ((x.name == qn.data.toList)=false):=jq (by simpa using hn);clear hn;go_wp2_with fail;clear ah;go_wp2_with fail;go_ret;exact⟨aj (by rw[<-bP.out,HN.out];simp),ay.out⟩
 have hn':(s.toList == qn.toList)=true:=by rw[dQ,dQ,HS.out,hn];simp
 have HN:Hid ((x.name == qn.data.toList)=true):=jq (by simpa using hn);clear hn;by_cases ht:x.type=qt
 case pos=>
  have ht':(x.type == qt)=true:=by simpa using ht
  have HT:=jq ht;clear ht;go_wp2_with fail;clear ah;go_wp2_with fail;go_ret;exact⟨aj (by rw[<-bP.out,HN.out,uQ HT.out];simp),ay.out⟩
 have ht':(x.type == qt)=false:=by simpa using ht
 have HT:=jq ht;clear ht;go_wp2_with fail;clear ah;go_wp2_with fail;go_ret;exact⟨aj (by rw[<-bP.out,HN.out,tQ HT.out];simp),ay.out⟩
theorem avJ:∀ args w,(callFunc 111 args).run prog w = .ok (.enter 111 args) w:=enters_of func111 (by kernel_rfl) rfl
theorem btK(Q:Nat)(qn:ByteArray)(qt:Int)(dV:qn.size<=140737488355328)(w:World)(hq:w.heap[Q]?=some (.cells [Value.string qn,.int .i64 qt].toArray 27 (0,0)))(x:Np.DSet)(e:List Value)(he:iw w w.heap.size e x) :
 Calls prog 111 #[.agg e.toArray,.pointer (some ⟨Q,0,none⟩)] w λe w'=>e = .returned (.bool (decide (x.type=8)||(decide (x.type=qt)&&Np.ku x.name qn.data.toList)))/\Below w.heap.size w w':=by
 obtain⟨s,v,hs,aB,hd,rfl⟩:=he;obtain⟨vA,vn,vc,rfl,_,_,_⟩:=cE hd;obtain⟨X,hX⟩:=aaK w.heap.size;obtain⟨w1,ah⟩:=aaK (w.alloc (.cells #[.string s,.int .i64 x.type,.int .i64 x.life,.slice vA vn vc] 25));have hb:Below w.heap.size w w1:=by rw[<-ah];exact aG _ _
 have bG:w1.heap.size=X+1:=by rw[<-ah,<-hX];simp
 have p:=de (r:=[.string s,.int .i64 x.type,.int .i64 x.life,.slice vA vn vc]) hX ah;have k0:=p 0 _ rfl;have k1:=p 1 _ rfl;have HS:=jq hs;have ay:=jq hb;have gI:=(hb.block Q (eQ.1 hq).1).trans hq;have q0:=af _ gI 0 _ rfl;have q1:=af _ gI 1 _ rfl;clear hq gI;obtain⟨R9,bZ⟩:=aaK (decide (x.type=8)||(decide (x.type=qt)&&Np.ku x.name qn.data.toList));rw[bZ];have bP:=jq bZ;clear hb hs hd p bZ;go_enter func111,ntmps111;by_cases h8:x.type=8
 case pos=>
  have h8':(x.type == 8)=true:=by simpa using h8
  have H8:=jq h8;clear h8;go_wp2_with fail;clear ah;go_wp2_with fail;go_ret;exact⟨aj (by rw[<-bP.out,uQ H8.out];simp),ay.out⟩
 have h8':(x.type == 8)=false:=by simpa using h8
 have H8:=jq h8;clear h8;by_cases ht:x.type=qt
 case pos=>
  have ht':(x.type == qt)=true:=by simpa using ht
  have HT:=jq ht;clear ht;go_wp2_with fail;clear ah;go_wp2_with fail;refine (Vr s qn aB dV w1).mono ?_;rintro e w2 ⟨rfl,ae⟩;have am:=aaZ ay ae;clear ae;rw[HS.out];go_wp2_with fail;go_ret;exact⟨aj (by rw[<-bP.out,tQ H8.out,uQ HT.out];simp),am.out⟩
 have ht':(x.type == qt)=false:=by simpa using ht
 have HT:=jq ht;clear ht;go_wp2_with fail;clear ah;go_wp2_with fail;go_ret;exact⟨aj (by rw[<-bP.out,tQ H8.out,tQ HT.out];simp),ay.out⟩
theorem avK:∀ args w,(callFunc 113 args).run prog w = .ok (.enter 113 args) w:=enters_of func113 (by kernel_rfl) rfl
theorem btX(Q:Nat)(qn:ByteArray)(qt:Int)(dV:qn.size<=140737488355328)(w:World)(hq:w.heap[Q]?=some (.cells [Value.string qn,.int .i64 qt].toArray 27 (0,0)))(x:Np.DSet)(e:List Value)(he:iw w w.heap.size e x) :
 Calls prog 113 #[.agg e.toArray,.pointer (some ⟨Q,0,none⟩)] w λe w'=>e = .returned (.bool (decide (x.type=8)||(decide (x.type=3)&&(x.name == qn.data.toList||Np.ku x.name qn.data.toList))))/\Below w.heap.size w w':=by
 obtain⟨s,v,hs,aB,hd,rfl⟩:=he;obtain⟨vA,vn,vc,rfl,_,_,_⟩:=cE hd;obtain⟨X,hX⟩:=aaK w.heap.size;obtain⟨w1,ah⟩:=aaK (w.alloc (.cells #[.string s,.int .i64 x.type,.int .i64 x.life,.slice vA vn vc] 25));have hb:Below w.heap.size w w1:=by rw[<-ah];exact aG _ _
 have bG:w1.heap.size=X+1:=by rw[<-ah,<-hX];simp
 have p:=de (r:=[.string s,.int .i64 x.type,.int .i64 x.life,.slice vA vn vc]) hX ah;have k0:=p 0 _ rfl;have k1:=p 1 _ rfl;have HS:=jq hs;have ay:=jq hb;have gI:=(hb.block Q (eQ.1 hq).1).trans hq;have q0:=af _ gI 0 _ rfl;have q1:=af _ gI 1 _ rfl;clear hq gI;obtain⟨R9,bZ⟩:=aaK (decide (x.type=8)||(decide (x.type=3)&&(x.name == qn.data.toList||Np.ku x.name qn.data.toList)));rw[bZ];have bP:=jq bZ;clear hb hs hd p bZ;go_enter func113,ntmps113;by_cases hn:x.name=qn.data.toList
 case neg=>
  have hn':(s.toList == qn.toList)=false:=by rw[dQ,dQ,HS.out];simpa using hn
  have HN:Hid ((x.name == qn.data.toList)=false):=jq (by simpa using hn);clear hn;go_wp2_with fail;clear ah;go_wp2_with fail;refine (Vr s qn aB dV w1).mono ?_;rintro e w2 ⟨rfl,ae⟩;have am:=aaZ ay ae;have k1:=aaQ ae k1;clear ae;rw[HS.out];by_cases h8:x.type=8
  case pos=>
   have h8':(x.type == 8)=true:=by simpa using h8
   have H8:=jq h8;clear h8;go_wp2_with fail;go_ret;exact⟨aj (by rw[<-bP.out,uQ H8.out];simp),am.out⟩
  have h8':(x.type == 8)=false:=by simpa using h8
  have H8:=jq h8;clear h8;by_cases h3:x.type=3
  case pos=>
   have h3':(x.type == 3)=true:=by simpa using h3
   have H3:=jq h3;clear h3;go_wp2_with fail;go_ret;exact⟨aj (by rw[<-bP.out,tQ H8.out,uQ H3.out,HN.out];simp),am.out⟩
  have h3':(x.type == 3)=false:=by simpa using h3
  have H3:=jq h3;clear h3;go_wp2_with fail;go_ret;exact⟨aj (by rw[<-bP.out,tQ H8.out,tQ H3.out];simp),am.out⟩
 have hn':(s.toList == qn.toList)=true:=by rw[dQ,dQ,HS.out,hn];simp
 have HN:Hid ((x.name == qn.data.toList)=true):=jq (by simpa using hn);clear hn;by_cases h8:x.type=8
 case pos=>
  have h8':(x.type == 8)=true:=by simpa using h8
  have H8:=jq h8;clear h8;go_wp2_with fail;clear ah;go_wp2_with fail;go_ret;exact⟨aj (by rw[<-bP.out,uQ H8.out];simp),ay.out⟩
 have h8':(x.type == 8)=false:=by simpa using h8
 have H8:=jq h8;clear h8;by_cases h3:x.type=3
 case pos=>
  have h3':(x.type == 3)=true:=by simpa using h3
  have H3:=jq h3;clear h3;go_wp2_with fail;clear ah;go_wp2_with fail;go_ret;exact⟨aj (by rw[<-bP.out,tQ H8.out,uQ H3.out,HN.out];simp),ay.out⟩
 have h3':(x.type == 3)=false:=by simpa using h3
 have H3:=jq h3;clear h3;go_wp2_with fail;clear ah;go_wp2_with fail;go_ret;exact⟨aj (by rw[<-bP.out,tQ H8.out,tQ H3.out];simp),ay.out⟩
theorem avX:∀ args w,(callFunc 115 args).run prog w = .ok (.enter 115 args) w:=enters_of func115 (by kernel_rfl) rfl
theorem btY(w:World)(x:Np.DSet)(e:List Value)(he:iw w w.heap.size e x) :
 Calls prog 115 #[.agg e.toArray] w λe w'=>e = .returned (.bool (false))/\Below w.heap.size w w':=by
 obtain⟨s,v,hs,aB,hd,rfl⟩:=he;obtain⟨vA,vn,vc,rfl,_,_,_⟩:=cE hd;obtain⟨X,hX⟩:=aaK w.heap.size;obtain⟨w1,ah⟩:=aaK (w.alloc (.cells #[.string s,.int .i64 x.type,.int .i64 x.life,.slice vA vn vc] 25));have hb:Below w.heap.size w w1:=by rw[<-ah];exact aG _ _
 have bG:w1.heap.size=X+1:=by rw[<-ah,<-hX];simp
 have p:=de (r:=[.string s,.int .i64 x.type,.int .i64 x.life,.slice vA vn vc]) hX ah;have k0:=p 0 _ rfl;have k1:=p 1 _ rfl;have HS:=jq hs;have ay:=jq hb;obtain⟨R9,bZ⟩:=aaK (false);rw[bZ];have bP:=jq bZ;clear hb hs hd p bZ;go_enter func115,ntmps115;go_wp2_with fail;clear ah;go_wp2_with fail;go_ret;exact⟨aj (by rw[<-bP.out]),ay.out⟩
theorem avY:∀ args w,(callFunc 184 args).run prog w = .ok (.enter 184 args) w:=enters_of func184 (by kernel_rfl) rfl
theorem buQ(w:World)(x:Np.DSet)(e:List Value)(he:iw w w.heap.size e x) :
 Calls prog 184 #[.agg e.toArray] w λe w'=>e = .returned (.bool (false))/\Below w.heap.size w w':=by
 obtain⟨s,v,hs,aB,hd,rfl⟩:=he;obtain⟨vA,vn,vc,rfl,_,_,_⟩:=cE hd;obtain⟨X,hX⟩:=aaK w.heap.size;obtain⟨w1,ah⟩:=aaK (w.alloc (.cells #[.string s,.int .i64 x.type,.int .i64 x.life,.slice vA vn vc] 25));have hb:Below w.heap.size w w1:=by rw[<-ah];exact aG _ _
 have bG:w1.heap.size=X+1:=by rw[<-ah,<-hX];simp
 have p:=de (r:=[.string s,.int .i64 x.type,.int .i64 x.life,.slice vA vn vc]) hX ah;have k0:=p 0 _ rfl;have k1:=p 1 _ rfl;have HS:=jq hs;have ay:=jq hb;obtain⟨R9,bZ⟩:=aaK (false);rw[bZ];have bP:=jq bZ;clear hb hs hd p bZ;go_enter func184,ntmps184;go_wp2_with fail;clear ah;go_wp2_with fail;go_ret;exact⟨aj (by rw[<-bP.out]),ay.out⟩
end
section
open Go.RowKit Go.Shelf
attribute [local go_sem] Oper.semAt_some
def Np.jW(known:List Np.Signed):Prop:=∀ s∈known,s.set.type≠8/\s.set.type≠3/\Np.dC s.set.name=false
theorem Np.jW.wild{known:List Np.Signed}(h:Np.jW known)(a:List UInt8)(t:Int):Np.fS known (Np.eR a) t=none:=by
 unfold Np.fS;rw[List.find?_eq_none];intro s hs hc;simp only[Bool.and_eq_true,beq_iff_eq,Qa] at hc;have h1:=(h s hs).2.2;rw[hc.1.1] at h1;unfold Np.eR at h1;split at h1<;>simp[Np.dC] at h1
theorem Np.jW.alias{known:List Np.Signed}(h:Np.jW known)(n:List UInt8)(t:Int):Np.rG known n t=none:=by
 unfold Np.rG;split
 ·rfl
 unfold Np.fS;rw[List.find?_eq_none];intro s hs hc;simp only[Bool.and_eq_true,beq_iff_eq,Qa] at hc;exact (h s hs).2.1 hc.1.2
theorem Np.jW.wl{known:List Np.Signed}(h:Np.jW known)(n:List UInt8)(t:Int):Np.AC known n t = []:=by
 have:((Np.ups n).findSome? (Np.yy known n t))=none:=List.findSome?_eq_none_iff.2 λa _=>by unfold Np.yy;rw[h.wild a t];rfl
 show ((Np.ups n).findSome? (Np.yy known n t)).getD [] = [];rw[this];rfl
theorem Np.jW.zones{known:List Np.Signed}(h:Np.jW known)(n:List UInt8):Np.AE n known [] = []:=by
 induction known with
 | nil=>rfl
 | cons s r ih=>
  rw[Np.AE,Qc (λe=>(h s (List.mem_cons_self ..)).1 e.1)];exact ih λx hx=>h x (mQ _ hx)
theorem Np.jW.den{known:List Np.Signed}(h:Np.jW known)(n:List UInt8)(t:Int):Np.xa known n t = []:=by
 unfold Np.xa;rw[h.zones n,List.mergeSort_nil];rfl
theorem bNQ(kv adv:Value)(known:List Np.Signed)(ey:Hid (Np.jW known))(fZ:known.length<=1000)(rV:∀ x∈known,Np.bi x.set=true)(r:Nat)(kvs:List ((List UInt8×Int)×Value))(an n:ByteArray)(iC:Np.ai n.data.toList=true)(aty al at' dr t:Int)(w:World)(B:Nat)(hB:B<=w.heap.size)(hR:cr w w.heap.size)(hk:SlR az 5 w B kv known)(ha:∃ A n c,adv = .slice A n c)(hr:r<w.heap.size)(hm:fB r kvs w)(hc:kz known w B kvs) :
 Calls prog 92 #[sB kv r an aty al adv at' dr,.agg #[.string n,.int .i64 t]] w λe w'=>e = .returned (.slice none 0 0)/\Below w.heap.size w w':=by
 have HK:=jq hk;have eS:=jq hR;have eN:=jq iC;have F5:=nS iC;obtain⟨A,N,C,rfl,hN,_,_⟩:=cE hk;have HN:=jq hN;have Ro:N<=1000:=by omega
 obtain⟨aA,aN,aC,rfl⟩:=ha;unfold sB;obtain⟨X,hX⟩:=aaK w.heap.size;have JY:B<=X:=by omega
 obtain⟨w1,ah⟩:=aaK (w.alloc (.cells #[.slice A N C,.map (some r),.string an,.int .i64 aty,.int .i64 al,.slice aA aN aC,.int .i64 at',.int .i64 dr] 80));obtain⟨w2,ar⟩:=aaK (w1.alloc (.cells #[.string n,.int .i64 t] 27));obtain⟨w3,bT⟩:=aaK (w2.alloc (.cells #[.slice none 0 0] 22));have z1:w1.heap.size=X+1:=by rw[<-ah,<-hX];simp
 have z2:w2.heap.size=X+1+1:=by rw[<-ar];simp[z1]
 have z3:w3.heap.size=X+1+1+1:=by rw[<-bT];simp[z2]
 have av:Below X w w1:=by rw[<-ah,<-hX];exact aG _ _
 have ae:Below w1.heap.size w1 w2:=by rw[<-ar];exact aG _ _
 have aq:Below w2.heap.size w2 w3:=by rw[<-bT];exact aG _ _
 have aw:=jq (av.trans ((ae.abQ).trans (aq.abQ)));have p1:=de (r:=[.slice A N C,.map (some r),.string an,.int .i64 aty,.int .i64 al,.slice aA aN aC,.int .i64 at',.int .i64 dr]) rfl ah;have p2:=de (r:=[.string n,.int .i64 t]) rfl ar;rw[hX] at p1;rw[z1] at p2;have tn:=heap_alloc_new w2 (.cells #[.slice none 0 0] 22);rw[bT,z2] at tn;have HJ:Hid (∀ (wz:World),Below (X+1+1) w3 wz->∀ (j:Nat) u,[Value.slice A N C,.map (some r),.string an,.int .i64 aty,.int .i64 al,.slice aA aN aC,.int .i64 at',.int .i64 dr][j]?=some u->wz.cell? ⟨X,j,none⟩=some u):=jq (λwz hb j u hj=>aaQ hb ((cl aq (by omega)).trans ((cl ae (by omega)).trans (p1 j u hj))));have HQ:Hid (∀ (wz:World),Below (X+1+1) w3 wz->∀ (j:Nat) u,[Value.string n,.int .i64 t][j]?=some u->wz.cell? ⟨X+1,j,none⟩=some u):=jq (λwz hb j u hj=>aaQ hb ((cl aq (by omega)).trans (p2 j u hj)));have gj:=jq (hc.keep (aw.out.mono JY));have IA:=jq (hm.keep aw.out (by omega));have ju:=jq tn;have hrX:r<X:=by omega
 have HX:=jq hX;have q0:=HQ.out w3 (vQ _ _) 0 _ rfl;clear tn p1 p2 av ae aq hm hc hk hR rV iC hN hr;refine (callsIn_wide (n:=0)).1 ?_;refine callsIn_of_wp_marks func92 rfl trivial ?_ rfl;simp only[ntmps92,List.size_toArray,List.length_cons,List.length_nil,Nat.reduceAdd,Nat.reduceSub,Array.replicate_succ,Array.replicate_zero,List.push_toArray,List.append_toArray,List.nil_append,List.cons_append];gi_wp2_with fail;clear ah ar bT;refine⟨trivial,rfl,?_⟩;refine (callsIn_wide.2 (agY n w3)).mono ?_;rintro e w4 ⟨rfl,di⟩;have aE:Below w3.heap.size w3 w4:=by rw[di];exact aG _ _
 have z4:w4.heap.size=X+4:=by rw[di];simp[z3]
 have qN:w4.heap[X+1+1+1]?=some (.cells [Value.string n].toArray 9 (0,0)):=by
  rw[di,<-z3];exact heap_alloc_new _ _
 rw[z3];have Ip:=jq (ahQ n eN.out (X+1+1+1) w4 qN);have sK:=jq aE;have Rs:=(aE.block (X+1+1) (by omega)).trans ju.out;have iZ:=jq Rs;clear di aE qN Rs q0;gi_wp2_with fail;refine bPK (Dr:=λ_=>False) (O:=λk=>k=X+1+1+1) (w0:=w4) (first:=#[]) (captured:=#[.pointer (some ⟨X+1+1+1,0,none⟩)]) (gf:=217) rfl atJ (mk:=λy=>#[y,.pointer (some ⟨X+1+1+1,0,none⟩)]) (λ_=>rfl)
  Ip.out (dI.refl λk e=>e.elim) (dI.refl λk e=>by rw[z4,e];omega) (λ_=>rfl) (WlI known n.data.toList t w4 (X+1+1)) (λ_ _ _ _=>False)
  (Vs _ _ _ _ _ _ _ (by omega) (λk e=>by rw[e];omega)) (λc _ _ _ _ h _=>h)
  (λk=>k=X+1+1) (λk h1 h2=>h2) (λk h1 h2=>by omega) (by intro k h;omega)
  ⟨λa h=>by simp at h,rfl,iZ.out,vQ _ _⟩ ?round ?done ?stop
 case stop=>
  rintro D c pre S W hD gq bJ mf h hK;exact h.elim
 case done=>
  rintro D S W hD gq bJ ⟨dL,hSR,Dd,jB⟩ hK;have Rf:D≠X+1+1:=λe=>gq (e ▸ hSR);have Rz:X+1+1<W.heap.size:=(eQ.1 Dd).1;have ip:=jq (show (W.setCell ⟨X+1+1,0,none⟩ (.slice none 0 0)).heap[D]?=some (.deferred (some [])) from (wQ _ _ _ _ (λe=>Rf e)).trans hK);have rc0:=af [_] Dd 0 _ rfl;have rcf:W.frozen? ⟨X+1+1,0,none⟩=false:=by simp[World.frozen?,Dd]
  have AO:Hid (Below X w ((W.setCell ⟨X+1+1,0,none⟩ (.slice none 0 0)).putObj D (.deferred none))):=jq (o7 ((aw.out.trans ((sK.out.abQ).trans (jB.abQ))).blSe (p:=⟨X+1+1,0,none⟩) _) (by omega) _);have SO:((W.setCell ⟨X+1+1,0,none⟩ (.slice none 0 0)).putObj D (.deferred none)).heap[X+1+1]?=some (.cells [Value.slice none 0 0].toArray 22 (0,0)):=(zQ (λe=>Rf e.symm)).trans (by simp[World.setCell,Array.getElem?_modify,Dd]);have rc1:=af [_] SO 0 _ rfl;clear hK Dd SO jB dL;gi_wp2_with fail;refine pb ip.out (v:=.slice none 0 0) (by simp only[results,results92];simp[go_sem,rc1]) ?_;exact⟨rfl,by rw[HX.out];exact AO.out⟩
 case round=>
  rintro l0 pre x S W bW hI fG;obtain⟨ol,Cj,xe,zr⟩:=hI;have Rz:X+1+1<W.heap.size:=(eQ.1 xe).1;have HI:=jq (show WlI known n.data.toList t w4 (X+1+1) pre S W from ⟨ol,Cj,xe,zr⟩);have yY:=jq bW;clear ol Cj xe zr;gi_wp2;refine⟨S,RdStep.refl S W,λk e=>.inl e,fG,?_⟩;intro l W₂ aH;obtain⟨ol,Cj,xe,zr⟩:=Vs known n.data.toList t w4 (X+1+1) w4.heap.size _ (by omega) (λk e=>by rw[e];omega) pre S W W₂ HI.out aH;have nn:=jq (show WlI known n.data.toList t w4 (X+1+1) pre S W₂ from ⟨ol,Cj,xe,zr⟩);have EL:Hid (∀ k,S k->k<W₂.heap.size):=jq (λk e=>by have:=fG k e;have:=aH.size;omega);have bZQ:X+1+1<W₂.heap.size:=(eQ.1 xe).1;have Q3:Below (X+1+1) w3 W₂:=(sK.out.abQ).trans zr;have mW:=(ahZ eN.out (yY.out.subset (List.mem_append_right _ (List.mem_singleton.2 rfl))));have Ls:=Np.yr mW;have jb:=jq mW;have hrg:∃ (ys:ByteArray) (ya yb:Int) (ydA:Option Addr) (ydn ydc:Nat) (ygA:Option Addr) (ygn ygc:Nat) (g:Bool),(kvs.lookup (Np.eR x,t)).getD (.agg #[.string ⟨#[]⟩,.int .i64 0,.int .i64 0,.slice none 0 0,.slice none 0 0]) = .agg #[.string ys,.int .i64 ya,.int .i64 yb,.slice ydA ydn ydc,.slice ygA ygn ygc]/\(kvs.lookup (Np.eR x,t)).isSome=g/\g=false:=by
   rw[(gj.out (Np.eR x) t).1 (ey.out.wild x t)];exact⟨_,_,_,_,_,_,_,_,_,false,rfl,rfl,rfl⟩
  obtain⟨ys,ya,yb,ydA,ydn,ydc,ygA,ygn,ygc,g,dK,fo,ii⟩:=hrg;have Bf:=jq ii;obtain⟨w8,dX⟩:=aaK W₂.drew;have Cf:Below (X+1+1) w3 w8:=by rw[<-dX];exact Q3.drew
  have rA:=jq (show Below W₂.heap.size W₂ w8 by rw[<-dX];exact (vQ _ _).drew);have cV:Hid (∀ wz,Below (X+1+1) w3 wz->(Instr.lookup 77 (.map (some r)) (.agg #[bB (Np.eR x),.int .i64 t]) true).run prog wz = .ok (.tuple #[.agg #[.string ys,.int .i64 ya,.int .i64 yb,.slice ydA ydn ydc,.slice ygA ygn ygc],.bool g]) wz):=jq (λwz hb=>by
   have ep:=DL wz 77 44 underlying77 r kvs (IA.out.keep hb (by omega)) (Np.eR x,t) _ (zeroValue44 wz);rw[dK,fo] at ep;exact ep)
  have VW:=jq Cf;obtain⟨v,hv⟩:=aaK (Value.agg #[.string ys,.int .i64 ya,.int .i64 yb,.slice ydA ydn ydc,.slice ygA ygn ygc]);rw[hv] at cV;have HV:=jq hv;have j1:=HJ.out w8 Cf 1 _ rfl;have q1:=HQ.out w8 Cf 1 _ rfl;have lk:=cV.out w8 Cf;clear mW dK fo ii Q3 Cf ol Cj xe zr hv;gi_wp2_with fail;refine MD λa0 bD=>?_;have jt:=jq bD;have eC:=jq (show a0.eval (.tmp 2) = .pointer (some ⟨X,0,none⟩) by rw[bD];rfl);have gk:=jq (show a0.eval (.tmp 3) = .pointer (some ⟨X+1,0,none⟩) by rw[bD];rfl);have BH:=jq (show a0.eval (.tmp 5)=bB x by rw[bD];rfl);have Y0:=jq (show a0.eval (.tmp 8)=undef by rw[bD];rfl);have HM:=jq (show a0.tmps.size=53 by rw[bD];rfl);clear bD;refine Vt (by kernel_rfl) (by kernel_rfl) (by rintro⟨_,_,h⟩;exact h) ?_
  try rw[show ({ heap:=W₂.heap,tape:=W₂.tape,drawn:=W₂.drawn+1,os:=W₂.os,output:=W₂.output } : World)=w8 from dX]
  try rw[dX]
  refine cM 11 (D:=[0,1,2,3,4,5,6,7,8,9,10]) (val:=nb X r x (Np.eR x) t g v undef) Mw Mx (rR HM.out) (by kernel_rfl) ?_ ?_
  ·intro i au aI o ho a' hb ao;have k2':=adJ hb eC.out;have k3':=adJ hb gk.out;have k5':=adJ hb BH.out;simp[Act.eval] at k2' k3' k5'
   repeat' (rcases au with _ | ⟨_,au⟩)
   all_goals first
    | (exfalso;simp at aI;done)
    | (cases ho
       try simp[Act.eval,Region.binds,nb,mp] at ao
       refine cC (by simp[Region.wanted]) ?_
       first
       | (simp[Oper.quietAt,Oper.quietUpon,execOp,go_sem,nb,k2',k3',k5',j1,q1,lk,ao];done)
       | (simp[Oper.quietAt,Oper.quietUpon,go_sem,nb,ao];exact MA x Ls w8))
  ·intro f listed a' hH hr hv;simp only[wpOp];simp[Region.wanted];refine .inl ?_;simp[Oper.wp,execOp,go_sem];obtain⟨w9,iD⟩:=aaK (w8.alloc (.cells #[.string ⟨#[]⟩,.int .i64 0,.int .i64 0,.slice none 0 0,.slice none 0 0] 44));rw[iD];have cW:Below w8.heap.size w8 w9:=by rw[<-iD];exact aG _ _
   have l9:w8.heap.size<w9.heap.size:=by rw[<-iD];simp
   have Rg:w9.heap[w8.heap.size]?=some (.cells #[.string ⟨#[]⟩,.int .i64 0,.int .i64 0,.slice none 0 0,.slice none 0 0] 44 (0,0)):=by rw[<-iD];exact heap_alloc_new _ _
   have Bd:=jq Rg;have su:X+1+1<=w8.heap.size:=by have:=rA.out.size;omega
   have Cg:Below (X+1+1) w3 w9:=VW.out.trans (cW.mono su);have VX:=jq Cg;have Wh:=jq cW;replace j1:=HJ.out w9 Cg 1 _ rfl;replace q1:=HQ.out w9 Cg 1 _ rfl;replace lk:=cV.out w9 Cg;clear iD cW Rg Cg;refine cM 12 (D:=[0,1,2,3,4,5,6,7,8,9,10,11]) (val:=nb X r x (Np.eR x) t g v (.pointer (some ⟨w8.heap.size,0,none⟩))) Mw Mx (hH.next Mw Mx hr) (by kernel_rfl) ?_ ?_
   ·intro i au aI o ho a' hb ao;have k2':=adJ hb eC.out;have k3':=adJ hb gk.out;have k5':=adJ hb BH.out;simp[Act.eval] at k2' k3' k5'
    repeat' (rcases au with _ | ⟨_,au⟩)
    all_goals first
     | (exfalso;simp at aI;done)
     | (cases ho
        try simp[Act.eval,Region.binds,nb,mp] at ao
        refine cC (by simp[Region.wanted]) ?_
        first
        | (simp[Oper.quietAt,Oper.quietUpon,execOp,go_sem,nb,k2',k3',k5',j1,q1,lk,ao];done)
        | (simp[Oper.quietAt,Oper.quietUpon,go_sem,nb,ao];exact MA x Ls w9))
   ·intro f listed a' hH hr hv;have av9:=hv 9;have av11:=hv 11;simp[Act.eval,nb,mp] at av9 av11;rw[<-HV.out] at av9;have kE:=λj u hj=>af [_,_,_,_,_] Bd.out j u hj;have kE0:=kE 0 _ rfl;have kE1:=kE 1 _ rfl;have kE2:=kE 2 _ rfl;have kE3:=kE 3 _ rfl;have kE4:=kE 4 _ rfl;have fE:∀ i,w9.frozen? ⟨w8.heap.size,i,none⟩=false:=λi=>by simp[World.frozen?,Bd.out]
    simp only[wpOp];simp[Region.wanted];refine .inl ?_;simp[Oper.wp,execOp,go_sem,av9,av11,kE0,kE1,kE2,kE3,kE4,fE];obtain⟨w10,tV⟩:=aaK (((((w9.setCell ⟨w8.heap.size,0,none⟩ (.string ys)).setCell ⟨w8.heap.size,1,none⟩ (.int .i64 ya)).setCell ⟨w8.heap.size,2,none⟩ (.int .i64 yb)).setCell ⟨w8.heap.size,3,none⟩ (.slice ydA ydn ydc)).setCell ⟨w8.heap.size,4,none⟩ (.slice ygA ygn ygc));rw[tV];have J0:w10.heap[w8.heap.size]?=some (.cells [Value.string ys,.int .i64 ya,.int .i64 yb,.slice ydA ydn ydc,.slice ygA ygn ygc].toArray 44 (0,0)):=by rw[<-tV];exact QK _ _ _ _ _ _ _ _ _ _ Bd.out
    have qz:Below w8.heap.size w9 w10:=by rw[<-tV];exact JO (vQ _ _) (bQ _) _ _ _ _ _
    have Ce:Below (X+1+1) w3 w10:=VX.out.trans (qz.mono su);have bRJ:=jq Ce;have bSQ:=jq J0;have Jc:=jq (rA.out.trans ((Wh.out.trans (qz.mono (bQ _))).mono rA.out.size));have z10:w8.heap.size<w10.heap.size:=(eQ.1 J0).1;replace j1:=HJ.out w10 Ce 1 _ rfl;replace q1:=HQ.out w10 Ce 1 _ rfl;replace lk:=cV.out w10 Ce;clear kE kE0 kE1 kE2 kE3 kE4 fE tV J0 qz Ce;refine cM 13 (D:=[0,1,2,3,4,5,6,7,8,9,10,11,12]) (val:=nb X r x (Np.eR x) t g v (.pointer (some ⟨w8.heap.size,0,none⟩))) Vj bKJ (hH.skip hr (hv:=Y0.out.symm)) (by kernel_rfl) ?_ ?_
    ·intro i au aI o ho a' hb ao;have k2':=adJ hb eC.out;have k3':=adJ hb gk.out;have k5':=adJ hb BH.out;simp[Act.eval] at k2' k3' k5'
     repeat' (rcases au with _ | ⟨_,au⟩)
     all_goals first
      | (exfalso;simp at aI;done)
      | (cases ho
         try simp[Act.eval,Region.binds,nb,mp] at ao
         refine cC (by simp[Region.wanted]) ?_
         first
         | (simp[Oper.quietAt,Oper.quietUpon,execOp,go_sem,nb,k2',k3',k5',j1,q1,lk,ao];done)
         | (simp[Oper.quietAt,Oper.quietUpon,go_sem,nb,ao];exact MA x Ls w10))
    ·intro f listed a' hH hr hv;have av10:=hv 10;simp[Act.eval,nb,mp] at av10;simp only[wpOp];simp[Region.wanted];refine .inl ?_;simp[Oper.wp,execOp,go_sem,av10];refine nU hH hr HM.out Vj (by kernel_rfl) λeO=>?_;rw[eO,jt.out];simp[kq,Act.put,nb,mp];clear hv hH eO j1 q1 lk;obtain rfl:=Bf.out;have lG:Hid (Np.yy known n.data.toList t x=none):=jq (by unfold Np.yy;rw[ey.out.wild x t];rfl);gi_wp2_with fail;exact⟨S,RdStep.of_below Jc.out,λk e=>.inl e,λk e=>by have:=EL.out k e;have:=Jc.out.size;omega,nn.out.next Jc.out lG.out⟩
end
section
open Go.RowKit Go.Shelf Go.MapKept
attribute [local go_sem] Oper.semAt_some
theorem awQ:∀ args w,(callFunc 185 args).run prog w = .ok (.enter 185 args) w:=enters_of func185 (by kernel_rfl) rfl
theorem buZ(D H r:Nat)(ak:Int)(sA:Option Addr)(sn sc:Nat)(cut:ByteArray)(hcs:cut.size<=140737488355328)(ks:List (List UInt8))(w:World)(hD:w.heap[D]?=some (.cells [Value.int .i64 ak,.slice sA sn sc,.string cut].toArray 29 (0,0)))(hH:w.heap[H]?=some (.cells [Value.map (some r)].toArray 212 (0,0)))(hm:lP r ks w)(x:Np.DSet)(e:List Value)(he:iw w w.heap.size e x) :
 Calls prog 185 #[.agg e.toArray,.pointer (some ⟨D,0,none⟩),.pointer (some ⟨H,0,none⟩)] w λe w'=>e = .returned (.bool (if x.type=2\/x.type=6\/x.type=8 then x.name == cut.data.toList else decide (x.type=1)&&(Np.bA x.name cut.data.toList&&ks.any λy=>y == x.name)))/\Below w.heap.size w w':=by
 obtain⟨s,v,hs,aB,hd,rfl⟩:=he;obtain⟨vA,vn,vc,rfl,_,_,_⟩:=cE hd;obtain⟨X,hX⟩:=aaK w.heap.size;obtain⟨w1,ah⟩:=aaK (w.alloc (.cells #[.string s,.int .i64 x.type,.int .i64 x.life,.slice vA vn vc] 25));have hb:Below w.heap.size w w1:=by rw[<-ah];exact aG _ _
 have bG:w1.heap.size=X+1:=by rw[<-ah,<-hX];simp
 have p:=de (r:=[.string s,.int .i64 x.type,.int .i64 x.life,.slice vA vn vc]) hX ah;have k0:=p 0 _ rfl;have k1:=p 1 _ rfl;have Sg:=(eQ.1 hD).1;have Sh:=(eQ.1 hH).1;have HP:=jq p;have HS:=jq hs;have ay:=jq hb;have EA:=jq (hm.keep hb hm.lt);have F4:r<X:=by rw[<-hX];exact hm.lt
 have Ik:=jq ((hb.block H Sh).trans hH);have qk:=(hb.block D Sg).trans hD;have d2:=af _ qk 2 _ rfl;obtain⟨R9,bZ⟩:=aaK (if x.type=2\/x.type=6\/x.type=8 then x.name == cut.data.toList else decide (x.type=1)&&(Np.bA x.name cut.data.toList&&ks.any λy=>y == x.name));rw[bZ];have bP:=jq bZ;rw[hX] at Sg Sh;clear hb hs hd p bZ hD hH hm qk;go_enter func185,ntmps185;by_cases h2:x.type=2
 case pos=>
  have h2':(x.type == 2)=true:=by simpa using h2
  have HC:Hid (x.type=2\/x.type=6\/x.type=8):=jq (by omega);clear h2;by_cases hn:s.data.toList=cut.data.toList
  ·have hn':(s.toList == cut.toList)=true:=by rw[dQ,dQ,hn];simp
   have HN:Hid ((x.name == cut.data.toList)=true):=jq (by rw[<-HS.out];simpa using hn);clear hn;go_wp2_with fail;clear ah;go_wp2_with fail;go_ret;exact⟨aj (by rw[<-bP.out,QbQ HC.out,HN.out]),ay.out⟩
  ·have hn':(s.toList == cut.toList)=false:=by rw[dQ,dQ];simpa using hn
   have HN:Hid ((x.name == cut.data.toList)=false):=jq (by rw[<-HS.out];simpa using hn);clear hn;go_wp2_with fail;clear ah;go_wp2_with fail;go_ret;exact⟨aj (by rw[<-bP.out,QbQ HC.out,HN.out]),ay.out⟩
 have h2':(x.type == 2)=false:=by simpa using h2
 by_cases h6:x.type=6
 case pos=>
  have h6':(x.type == 6)=true:=by simpa using h6
  have HC:Hid (x.type=2\/x.type=6\/x.type=8):=jq (by omega);clear h6;by_cases hn:s.data.toList=cut.data.toList
  ·have hn':(s.toList == cut.toList)=true:=by rw[dQ,dQ,hn];simp
   have HN:Hid ((x.name == cut.data.toList)=true):=jq (by rw[<-HS.out];simpa using hn);clear hn;go_wp2_with fail;clear ah;go_wp2_with fail;go_ret;exact⟨aj (by rw[<-bP.out,QbQ HC.out,HN.out]),ay.out⟩
  ·have hn':(s.toList == cut.toList)=false:=by rw[dQ,dQ];simpa using hn
   have HN:Hid ((x.name == cut.data.toList)=false):=jq (by rw[<-HS.out];simpa using hn);clear hn;go_wp2_with fail;clear ah;go_wp2_with fail;go_ret;exact⟨aj (by rw[<-bP.out,QbQ HC.out,HN.out]),ay.out⟩
 have h6':(x.type == 6)=false:=by simpa using h6
 by_cases h8:x.type=8
 case pos=>
  have h8':(x.type == 8)=true:=by simpa using h8
  have HC:Hid (x.type=2\/x.type=6\/x.type=8):=jq (by omega);clear h8;by_cases hn:s.data.toList=cut.data.toList
  ·have hn':(s.toList == cut.toList)=true:=by rw[dQ,dQ,hn];simp
   have HN:Hid ((x.name == cut.data.toList)=true):=jq (by rw[<-HS.out];simpa using hn);clear hn;go_wp2_with fail;clear ah;go_wp2_with fail;go_ret;exact⟨aj (by rw[<-bP.out,QbQ HC.out,HN.out]),ay.out⟩
  ·have hn':(s.toList == cut.toList)=false:=by rw[dQ,dQ];simpa using hn
   have HN:Hid ((x.name == cut.data.toList)=false):=jq (by rw[<-HS.out];simpa using hn);clear hn;go_wp2_with fail;clear ah;go_wp2_with fail;go_ret;exact⟨aj (by rw[<-bP.out,QbQ HC.out,HN.out]),ay.out⟩
 have h8':(x.type == 8)=false:=by simpa using h8
 have HC:Hid (¬ (x.type=2\/x.type=6\/x.type=8)):=jq (by omega);clear h2 h6 h8;by_cases h1:x.type=1
 case neg=>
  have h1':(x.type == 1)=false:=by simpa using h1
  have H1:=jq h1;clear h1;go_wp2_with fail;clear ah;go_wp2_with fail;go_ret;exact⟨aj (by rw[<-bP.out,Qc HC.out,tQ H1.out];simp),ay.out⟩
 have h1':(x.type == 1)=true:=by simpa using h1
 have H1:=jq h1;clear h1;go_wp2_with fail;clear ah;go_wp2_with fail;refine (yx s cut aB hcs w1).mono ?_;rintro e w2 ⟨rfl,ae⟩;have am:=aaZ ay ae;have iP:=EA.out.keep ae (by omega);have Ri:=(ae.block H (by omega)).trans Ik.out;have c0:=af _ Ri 0 _ rfl;have k0':=aaQ ae (HP.out 0 _ rfl);have ep:=bvY w2 212 _ _ underlying212 underlying9 r ks iP s.data.toList (zeroValue4 w2);rw[U7,HS.out] at ep;obtain⟨c1,aR⟩:=aaK (Np.bA s.data.toList cut.data.toList);rw[aR];rw[HS.out] at aR;have cN:=jq aR;clear aR ae iP Ri
 cases c1 with
 | false=>
  go_wp2_with fail;go_ret;exact⟨aj (by rw[<-bP.out,Qc HC.out,uQ H1.out,cN.out];simp),am.out⟩
 | true=>
  go_wp2_with fail;go_ret;exact⟨aj (by rw[<-bP.out,Qc HC.out,uQ H1.out,cN.out];simp),am.out⟩
theorem oW.form{W:World}{B:Nat}{e:List Value}{a:Np.Ans}(h:oW W B e a):∃ (A:Option Addr) (N C:Nat) (c:ByteArray),e = [.int .i64 a.kind,.slice A N C,.string c]/\a.sets.length=N/\N<=C/\N<=140737488355328/\SlR az 5 W B (.slice A N C) a.sets/\c.data.toList=a.cut/\c.size<=140737488355328:=by
 obtain⟨v,c,hv,hc,hcs,rfl⟩:=h;obtain⟨A,N,C,rfl,hN,hNC,Fv⟩:=cE hv;exact⟨A,N,C,c,rfl,hN,hNC,Fv,hv,hc,hcs⟩
theorem Np.aUY{a:Np.Ans}{k:Nat}{y:Np.Signed}(hy:a.sets[k]?=some y)(dL:∀ s∈a.sets.take k,(s.set.name == a.cut&&decide (s.set.type=2))=false)(h:(y.set.name == a.cut&&decide (y.set.type=2))=true):Np.tO a=y.set.data.map (·.text):=by
 obtain⟨hl,he⟩:=cQ.1 hy;unfold Np.tO;rw[Fk (λs:Np.Signed=>s.set.name == a.cut&&decide (s.set.type=2)) a.sets k hl dL (by rw[he];exact h),he]
theorem Np.aVQ{a:Np.Ans}(dL:∀ s∈a.sets,(s.set.name == a.cut&&decide (s.set.type=2))=false):Np.tO a = []:=by
 unfold Np.tO;rw[List.find?_eq_none.2 (λs hs=>by rw[dL s hs];simp)]
theorem UF(p:Np.DSet->Bool)(hp:∀ x,p x=false)(w:World):kL (.func (.func 184) #[] #[]) p w:=
 ⟨_,#[],rfl,avY,λW e x _ he=>(buQ W x e he).mono λe' W' h=>⟨by rw[h.1,hp],h.2⟩⟩
theorem UG(zn qn:List UInt8)(a:Np.Ans)(D H r:Nat)(ak:Int)(sA:Option Addr)(sn sc:Nat)(cut:ByteArray)(hc:cut.data.toList=a.cut)(hcs:cut.size<=140737488355328)(ks:List (List UInt8))(tF:Np.tO a=ks)(w:World)(hD:w.heap[D]?=some (.cells [Value.int .i64 ak,.slice sA sn sc,.string cut].toArray 29 (0,0)))(hH:w.heap[H]?=some (.cells [Value.map (some r)].toArray 212 (0,0)))(hm:lP r ks w)
 (hb:Np.p9 a.cut zn=true) (hu:Np.bA qn a.cut=true):kL (.func (.func 185) #[] #[.pointer (some ⟨D,0,none⟩),.pointer (some ⟨H,0,none⟩)]) (Np.yg zn qn a) w:=by
 refine⟨_,_,rfl,awQ,λW e x hW he=>(buZ D H r ak sA sn sc cut hcs ks W ((hW.block D (eQ.1 hD).1).trans hD) ((hW.block H (eQ.1 hH).1).trans hH) (hm.keep hW hm.lt) x e he).mono λe' W' h=>⟨?_,h.2⟩⟩;rw[h.1];unfold Np.yg;rw[hb,hu,tF,hc];rfl
theorem brQ(z qn:ByteArray)(hz:z.size<=140737488355328)(dV:qn.size<=140737488355328)(qt:Int)(a:Np.Ans)(e:List Value)(w:World)(he:oW w w.heap.size e a)(nK:∀ y∈a.sets,y.set.data.length<=100000) :
 Calls prog 114 #[.string z,.agg #[.string qn,.int .i64 qt],.agg e.toArray] w λe w'=>(∃ rv,e = .returned rv/\kL rv (Np.yg z.data.toList qn.data.toList a) w')/\Below w.heap.size w w':=by
 obtain⟨A,N,C,cut,rfl,hN,_,Fv,hv,hc,hcs⟩:=he.form;obtain⟨X,hX⟩:=aaK w.heap.size;obtain⟨ak,qw⟩:=aaK a.kind;rw[qw];obtain⟨w1,ah⟩:=aaK (w.alloc (.cells #[.string qn,.int .i64 qt] 27));obtain⟨w2,ar⟩:=aaK (w1.alloc (.cells #[.int .i64 ak,.slice A N C,.string cut] 29));have z1:w1.heap.size=X+1:=by rw[<-ah,<-hX];simp
 have z2:w2.heap.size=X+1+1:=by rw[<-ar];simp[z1]
 have av:Below X w w1:=by rw[<-ah,<-hX];exact aG _ _
 have ae:Below w1.heap.size w1 w2:=by rw[<-ar];exact aG _ _
 have am:=jq (av.trans (ae.abQ));have gz:Hid (w2.heap[X]?=some (.cells [Value.string qn,.int .i64 qt].toArray 27 (0,0))):=jq ((ae.block X (by omega)).trans (by rw[<-ah,<-hX];exact heap_alloc_new _ _));have jS:Hid (w2.heap[X+1]?=some (.cells [Value.int .i64 ak,.slice A N C,.string cut].toArray 29 (0,0))):=jq (by rw[<-ar,<-z1];exact heap_alloc_new _ _);rw[hX] at hv;have HV:=jq hv;have HN:=jq hN;have HC:=jq hc;have HX:=jq hX;have ry:=jq nK;have q0:=af _ gz.out 0 _ rfl;have d2:=af _ jS.out 2 _ rfl;have bL:X+1+1<=w2.heap.size:=by omega
 clear av ae hv hN hc nK he;go_enter func114,ntmps114;go_wp2_with fail;clear ah ar;go_wp2_with fail;refine (PZ cut z hcs hz w2).mono ?_;rintro e w3 ⟨rfl,aq⟩;have aw:=aaZ am aq;have iY:=jq ((aq.block X (by omega)).trans gz.out);have sM:=jq ((aq.block (X+1) (by omega)).trans jS.out);have mh:X+1+1<=w3.heap.size:=by have:=aq.size;omega
 clear aq z1 z2 q0 d2;obtain⟨c1,aR⟩:=aaK (Np.p9 cut.data.toList z.data.toList);rw[aR];rw[HC.out] at aR;have cN:=jq aR;clear aR
 cases c1 with
 | false=>
  go_wp2_with fail;go_ret;exact⟨⟨_,rfl,UF _ (λx=>by unfold Np.yg;rw[cN.out];rfl) _⟩,by rw[HX.out];exact aw.out⟩
 | true=>
  have q0:=af _ iY.out 0 _ rfl;have d2:=af _ sM.out 2 _ rfl;go_wp2_with fail;refine (yx qn cut dV hcs w3).mono ?_;rintro e w4 ⟨rfl,aE⟩;have aX:=aaZ aw aE;have uo:=jq ((aE.block (X+1) (by omega)).trans sM.out);have pw:X+1+1<=w4.heap.size:=by have:=aE.size;omega
  clear aE q0 d2;obtain⟨c2,cH⟩:=aaK (Np.bA qn.data.toList cut.data.toList);rw[cH];rw[HC.out] at cH;have dH:=jq cH;clear cH
  cases c2 with
  | false=>
   go_wp2_with fail;go_ret;exact⟨⟨_,rfl,UF _ (λx=>by unfold Np.yg;rw[dH.out,cN.out];rfl) _⟩,by rw[HX.out];exact aX.out⟩
  | true=>
   have pk:∀ (w:World),(Instr.makeMap 212 none).run prog w = .ok (.map (some w.heap.size)) (w.alloc (.map #[] 0)):=λw=>by
    simp[Instr.makeMap,Result.andThen]
   obtain⟨r,hr⟩:=aaK w4.heap.size;obtain⟨w5,aS⟩:=aaK (w4.alloc (.map #[] 0));obtain⟨w6,cS⟩:=aaK (w5.alloc (.cells #[.map (some r)] 212));have z5:w5.heap.size=r+1:=by rw[<-aS,<-hr];simp
   have z6:w6.heap.size=r+1+1:=by rw[<-cS];simp[z5]
   have aO:Below r w4 w5:=by rw[<-aS,<-hr];exact aG _ _
   have bE:Below w5.heap.size w5 w6:=by rw[<-cS];exact aG _ _
   have Bu:Hid (lP r [] w6):=jq ((show lP r [] w5 by rw[<-aS,<-hr];exact lP.made w4).keep bE (by omega));have Xq:Hid (w6.heap[r+1]?=some (.cells [Value.map (some r)].toArray 212 (0,0))):=jq (by rw[<-cS,<-z5];exact heap_alloc_new _ _);have AM:=jq (aO.trans (bE.abQ));have bH:=aaZ aX AM.out;have sO:=jq ((AM.out.block (X+1) (by omega)).trans uo.out);have hXr:X+1+1<=r:=by omega
   have Ji:Hid (w6.heap.size=r+1+1):=jq z6;have d1:=af _ sO.out 1 _ rfl;clear aO bE z6;go_wp2_with fail;clear aS pk;go_wp2_with fail;clear cS z5;go_wp2_with fail;clear d1;go_loopw [29] (λi wr=>∃ k:Nat,k<=N/\i = .int .i64 k/\Hid (Below w6.heap.size w6 wr)/\Hid (∀ s∈a.sets.take k,(s.set.name == a.cut&&decide (s.set.type=2))=false)) (λi _=>N - (intOf i).toNat)
   case atStart=>exact⟨0,jQ _,rfl,jq (vQ _ _),jq (by simp)⟩
   case round=>
    obtain⟨k,hk,rfl,HB,lG⟩:=hrel;obtain⟨ws,rfl⟩:=aaX wr;have px:=Ji.out;have gd:r+1+1<=ws.heap.size:=by have:=HB.out.size;omega
    have bN:=aaZ bH HB.out;have El:=jq ((HB.out.block (X+1) (by omega)).trans sO.out);have Nz:=jq ((HB.out.block (r+1) (by omega)).trans Xq.out);have NN:=jq (Bu.out.keep HB.out (by omega));clear px;by_cases ag:k<N
    ·obtain⟨y,pu⟩:∃ y,a.sets[k]?=some y:=⟨_,aQ (by rw[HN.out];exact ag)⟩;obtain⟨b,o,c2,s,dv,sv,hA,cO,_,aP,dM,aV,aZ,e0,e1,e2,e3,e4⟩:=dN (HV.out.keep ax bN.out) pu;simp only[Value.slice.injEq] at hA;obtain⟨rfl,-,rfl⟩:=hA;obtain⟨dA,dn,dc,rfl,jC,_,xB⟩:=cE aV;obtain⟨gA,gn,gc,rfl,_,_,_⟩:=cE aZ;have jV:=jq pu;have iX:=jq (DO aV bN.out (λ_ _ h=>h));have Bb:=jq jC;have PD:=jq aP;have jU:Hid (a.sets.take (k+1)=a.sets.take k ++ [y]):=jq (by
      obtain⟨hl,he⟩:=cQ.1 pu;rw[fQ hl,he])
     have df:=kNN k;have dg:(k:Int)<(N:Int):=by omega
     obtain⟨w7,ko⟩:=aaK (ws.alloc (.cells #[.string s,.int .i64 y.set.type,.int .i64 y.set.life,.slice dA dn dc,.slice gA gn gc] 44));have bF:Below ws.heap.size ws w7:=by rw[<-ko];exact aG _ _
     have l7:ws.heap.size<w7.heap.size:=by rw[<-ko];simp
     have p7:=de (r:=[.string s,.int .i64 y.set.type,.int .i64 y.set.life,.slice dA dn dc,.slice gA gn gc]) rfl ko;have v0:=p7 0 _ rfl;have v1:=p7 1 _ rfl;have v3:=p7 3 _ rfl;have cw:=jq bF;have Ek:=jq ((bF.block (X+1) (by omega)).trans El.out);have d2:=af _ Ek.out 2 _ rfl;clear pu aP aV aZ jC bF p7;have ey:Hid ((y.set.name == a.cut&&decide (y.set.type=2))=false)->Hid (∀ s∈a.sets.take (k+1),(s.set.name == a.cut&&decide (s.set.type=2))=false):=λh=>jq (λs hs=>by
      rw[jU.out] at hs;rcases List.mem_append.1 hs with hs | hs
      ·exact lG.out s hs
      ·rw[List.mem_singleton.1 hs];exact h.out)
     by_cases hn:s.data.toList=cut.data.toList
     case neg=>
      have hn':(s.toList == cut.toList)=false:=by rw[dQ,dQ];simpa using hn
      have HM:Hid ((y.set.name == a.cut&&decide (y.set.type=2))=false):=jq (by rw[<-PD.out,<-HC.out,beq_eq_false_iff_ne.2 hn];rfl);have ID:=ey HM;clear hn ey;go_wp2_with fail;clear ko e0 e1 e2 e3 e4;go_wp2_with fail;go_roundw
      case rel=>exact⟨k+1,by omega,by go_num,jq (HB.out.trans (cw.out.mono HB.out.size)),ID⟩
      ·simp[intOf]<;>omega
     have hn':(s.toList == cut.toList)=true:=by rw[dQ,dQ,hn];simp
     have rq:Hid (y.set.name=a.cut):=jq (by rw[<-PD.out,<-HC.out];exact hn);clear hn;by_cases h2:y.set.type=2
     case neg=>
      have h2':(y.set.type == 2)=false:=by simpa using h2
      have HM:Hid ((y.set.name == a.cut&&decide (y.set.type=2))=false):=jq (by simp[h2]);have ID:=ey HM;clear h2 ey;go_wp2_with fail;clear ko e0 e1 e2 e3 e4;go_wp2_with fail;go_roundw
      case rel=>exact⟨k+1,by omega,by go_num,jq (HB.out.trans (cw.out.mono HB.out.size)),ID⟩
      ·simp[intOf]<;>omega
     have h2':(y.set.type == 2)=true:=by simpa using h2
     have Xr:Hid (Np.tO a=y.set.data.map (·.text)):=jq (Np.aUY jV.out lG.out (by rw[rq.out,h2];simp));have Y2:=jq (ry.out y (gQ jV.out));have hdm:dn<=100000:=by rw[<-Bb.out];exact Y2.out
     clear h2 ey;go_wp2_with fail;clear ko e0 e1 e2 e3 e4;go_wp2_with fail;clear v0 v1 v3 d2;go_loopw [49] (λj wr=>∃ q:Nat,q<=dn/\j = .int .i64 q/\r+1+1<=wr.heap.size/\Hid (Below X w wr)/\Hid (wr.heap[X+1]?=some (.cells [Value.int .i64 ak,.slice (some ⟨b,o,none⟩) N C,.string cut].toArray 29 (0,0)))/\Hid (wr.heap[r+1]?=some (.cells [Value.map (some r)].toArray 212 (0,0)))/\Hid (lP r ((y.set.data.take q).map (·.text)) wr)) (λj _=>dn - (intOf j).toNat)
     case atStart=>exact⟨0,jQ _,rfl,by omega,aaZ bN cw.out,Ek,jq ((cw.out.block (r+1) (by omega)).trans Nz.out),jq (NN.out.keep cw.out (by omega))⟩
     case round=>
      obtain⟨q,hq,rfl,vz,g8,Nu,NB,Bw⟩:=hrel;obtain⟨wt,rfl⟩:=aaX wr;by_cases Db:q<dn
      ·obtain⟨d,Ks⟩:∃ d,y.set.data[q]?=some d:=⟨_,aQ (by rw[Bb.out];exact Db)⟩;obtain⟨b',o',c',xt,hA',xn,_,Dv,pr,g0,g1,g2⟩:=B9 (iX.out.keep bM g8.out) Ks;simp only[Value.slice.injEq] at hA';obtain⟨rfl,-,rfl⟩:=hA';have HXT:=jq Dv;have I8:Hid ((y.set.data.take (q+1)).map (·.text)=(y.set.data.take q).map (·.text) ++ [d.text]):=jq (by
        obtain⟨hl,he⟩:=cQ.1 Ks;rw[fQ hl,he,List.map_append];rfl)
       have hq0:=kNN q;have gI:(q:Int)<(dn:Int):=by omega
       obtain⟨w8,dX⟩:=aaK (wt.alloc (.cells #[.string xt,.int .i64 d.n,.int .i64 d.m] 75));have cA:Below wt.heap.size wt w8:=by rw[<-dX];exact aG _ _
       have l8:wt.heap.size<w8.heap.size:=by rw[<-dX];simp
       have t0:=de (r:=[.string xt,.int .i64 d.n,.int .i64 d.m]) rfl dX 0 _ rfl;have dZ:=jq cA;have Ny:=jq ((cA.block (r+1) (by omega)).trans NB.out);have EB:=jq (Bw.out.keep cA (by omega));have c0:=af _ Ny.out 0 _ rfl;clear Ks Dv cA;go_wp2_with (at_mapUpdate;refine bQK w8 rfl _ _ _ 212 rfl 9 4 underlying212 underlying9 r _ rfl EB.out d.text (by rw[<-HXT.out,U7];rfl) rfl ?_;intro w9 CY Dj;have IB:=jq CY;have zd:=jq Dj;clear CY Dj);go_roundw
       case rel=>exact⟨q+1,by omega,by go_num,by rw[zd.out.size];omega,jq ((g8.out.trans (dZ.out.abQ)).trans (zd.out.below (by omega))),jq ((zd.out.block (X+1) (by omega)).trans ((dZ.out.block (X+1) (by omega)).trans Nu.out)),jq ((zd.out.block (r+1) (by omega)).trans Ny.out),jq (by rw[I8.out];exact IB.out)⟩
       ·simp[intOf]<;>omega
      ·obtain rfl:q=dn:=by omega
       have I6:Hid ((y.set.data.take q).map (·.text)=y.set.data.map (·.text)):=jq (by rw[kQ (by rw[Bb.out];omega)]);rw[I6.out] at Bw;clear Db;go_wp2_with fail;go_ret;exact⟨⟨_,rfl,UG z.data.toList qn.data.toList a (X+1) (r+1) r ak (some ⟨b,o,none⟩) N C cut HC.out hcs _ Xr.out wt Nu.out NB.out Bw.out cN.out dH.out⟩,by first | exact g8.out | (rw[HX.out];exact g8.out)⟩
    ·obtain rfl:k=N:=by omega
     have IC:Hid (∀ s∈a.sets,(s.set.name == a.cut&&decide (s.set.type=2))=false):=jq (by have:=lG.out;rwa [kQ (by rw[HN.out];omega)] at this);go_wp2_with fail;go_ret;exact⟨⟨_,rfl,UG z.data.toList qn.data.toList a (X+1) (r+1) r ak A k C cut HC.out hcs [] (Np.aVQ IC.out) ws El.out Nz.out NN.out cN.out dH.out⟩,by rw[HX.out];exact bN.out⟩
end
section
open Go.RowKit
theorem bKQ(kv adv:Value)(known:List Np.Signed)(ey:Hid (Np.jW known))(fZ:known.length<=1000)(rV:∀ x∈known,Np.bi x.set=true)(r:Nat)(an n:ByteArray)(iC:Np.ai n.data.toList=true)(aty al at' dr t:Int)(w:World)(B:Nat)(hB:B<=w.heap.size)(hR:cr w w.heap.size)(hk:SlR az 5 w B kv known)(ha:∃ A n c,adv = .slice A n c) :
 Calls prog 93 #[sB kv r an aty al adv at' dr,.agg #[.string n,.int .i64 t]] w λe w'=>e = .returned (.slice none 0 0)/\Below w.heap.size w w':=by
 have HK:=jq hk;have eS:=jq hR;have F5:=nS iC;have eN:=jq iC;obtain⟨A,N,C,rfl,hN,_,_⟩:=cE hk;have HN:=jq hN;have Ro:N<=1000:=by omega
 obtain⟨aA,aN,aC,rfl⟩:=ha;unfold sB;obtain⟨X,hX⟩:=aaK w.heap.size;have HX:=jq hX;have JY:B<=X:=by omega
 obtain⟨w1,ah⟩:=aaK (w.alloc (.cells #[.slice A N C,.map (some r),.string an,.int .i64 aty,.int .i64 al,.slice aA aN aC,.int .i64 at',.int .i64 dr] 80));obtain⟨w2,ar⟩:=aaK (w1.alloc (.cells #[.string n,.int .i64 t] 27));have z1:w1.heap.size=X+1:=by rw[<-ah,<-hX];simp
 have z2:w2.heap.size=X+1+1:=by rw[<-ar];simp[z1]
 have av:Below X w w1:=by rw[<-ah,<-hX];exact aG _ _
 have ae:Below w1.heap.size w1 w2:=by rw[<-ar];exact aG _ _
 have am:=jq (av.trans (ae.abQ));have p1:=de (r:=[.slice A N C,.map (some r),.string an,.int .i64 aty,.int .i64 al,.slice aA aN aC,.int .i64 at',.int .i64 dr]) rfl ah;have p2:=de (r:=[.string n,.int .i64 t]) rfl ar;rw[hX] at p1;rw[z1] at p2;have HJ:Hid (∀ (wz:World),Below (X+1+1) w2 wz->∀ (j:Nat) u,[Value.slice A N C,.map (some r),.string an,.int .i64 aty,.int .i64 al,.slice aA aN aC,.int .i64 at',.int .i64 dr][j]?=some u->wz.cell? ⟨X,j,none⟩=some u):=jq (λwz hb j u hj=>aaQ hb ((cl ae (by omega)).trans (p1 j u hj)));have HQ:Hid (∀ (wz:World),Below (X+1+1) w2 wz->∀ (j:Nat) u,[Value.string n,.int .i64 t][j]?=some u->wz.cell? ⟨X+1,j,none⟩=some u):=jq (λwz hb j u hj=>aaQ hb (p2 j u hj));have j0:=HJ.out w2 (vQ _ _) 0 _ rfl;have Ly:X+1+1<=w2.heap.size:=by omega
 clear p1 p2 av ae hk hR rV iC hN z2;go_enter func93,ntmps93;go_wp2_with fail;clear ah ar;go_wp2_with fail;clear j0 z1;go_loopw [5,20] (λzv i wr=>∃ k:Nat,k<=N/\i = .int .i64 k/\zv = .slice none 0 0/\Hid (Below (X+1+1) w2 wr)) (λ_ i _=>N - (intOf i).toNat)
 case atStart=>exact⟨0,jQ _,rfl,rfl,jq (vQ _ _)⟩
 case round=>
  obtain⟨k,hk,rfl,rfl,HB⟩:=hrel;obtain⟨ws,rfl⟩:=aaX wr;have Gu:=HB.out.size;by_cases ag:k<N
  ·obtain⟨p,dU⟩:∃ p,known[k]?=some p:=⟨_,aQ (by rw[HN.out];exact ag)⟩;have RB:Below X w ws:=am.out.trans (HB.out.abQ);obtain⟨b,o,c2,s,dv,sv,hA,cO,_,aP,dM,aV,aZ,e0,e1,e2,e3,e4⟩:=dN (HK.out.keep ax (RB.mono JY)) dU;simp only[Value.slice.injEq] at hA;obtain⟨rfl,-,rfl⟩:=hA;obtain⟨dA,dn,dc,rfl,_,_,_⟩:=cE aV;obtain⟨gA,gn,gc,rfl,_,_,_⟩:=cE aZ;have pV:Hid (SlR en 6 ws B (.slice gA gn gc) p.sigs):=jq aZ;have df:=kNN k;have dg:(k:Int)<(N:Int):=by omega
   obtain⟨w3,bT⟩:=aaK (ws.alloc (.cells #[.string s,.int .i64 p.set.type,.int .i64 p.set.life,.slice dA dn dc,.slice gA gn gc] 44));have aq:Below ws.heap.size ws w3:=by rw[<-bT];exact aG _ _
   have l3:ws.heap.size<w3.heap.size:=by rw[<-bT];simp
   have p3:=de (r:=[.string s,.int .i64 p.set.type,.int .i64 p.set.life,.slice dA dn dc,.slice gA gn gc]) rfl bT;have Yi:Hid (∀ (wz:World),Below w3.heap.size w3 wz->∀ (j:Nat) u,[Value.string s,.int .i64 p.set.type,.int .i64 p.set.life,.slice dA dn dc,.slice gA gn gc][j]?=some u->wz.cell? ⟨ws.heap.size,j,none⟩=some u):=jq (λwz hb j u hj=>(hb.cell (p:=⟨ws.heap.size,j,none⟩) l3).trans (p3 j u hj));have aw:=jq aq;have g0:=p3 0 _ rfl;have g1:=p3 1 _ rfl;have g2:=p3 2 _ rfl;have g3:=p3 3 _ rfl;have g4:=p3 4 _ rfl;obtain⟨zp,LA⟩:∃ z:ByteArray,z.data.toList=Np.cx p:=⟨⟨(Np.cx p).toArray⟩,by simp⟩;have HZP:=jq LA;have ccK:zp.size<=140737488355328:=by rw[<-bO,LA];exact UR aZ
   have H8:=jq (ey.out p (gQ dU)).1;clear dU aP aV aZ aq p3 LA RB;go_wp2_with fail;clear bT e0 e1 e2 e3 e4;go_wp2_with fail;refine (US s _ _ _ _ p zp HZP.out w3 ((pV.out.keep dG (aw.out.abQ)).more el (by omega))).mono ?_;rintro e w4 ⟨rfl,aE⟩;have sK:=jq aE;have aX:=jq (aw.out.trans (aE.mono aw.out.size));have pw:=aE.size;clear g0 g1 g2 g3 g4;have g1:=Yi.out w4 aE 1 _ rfl;have Nh:=aaZ HB aX.out;have q0:=HQ.out w4 Nh.out 0 _ rfl;clear aE;have h8':(p.set.type == 8)=false:=by simpa using H8.out
   go_wp2_with fail;go_roundw
   case rel=>exact⟨k+1,by omega,by go_num,rfl,Nh⟩
   ·simp[intOf]<;>omega
  ·have hkN:k=N:=by omega
   subst k;clear ag;go_wp2_with fail;refine (bCQ n.data.toList eN.out (X+1+1) _ [] ws ⟨by simp,.inl ⟨rfl,rfl⟩⟩ (λx hx=>by simp at hx) (by simp)).mono ?_;rintro e w3 ⟨rfl,nF,ii⟩;have aw:Hid (Below X w w3):=jq (am.out.trans ((HB.out.grown ii (by omega) (λg e=>by cases e)).abQ));clear ii nF HB;go_wp2_with fail;go_loopw [55] (λi wr=>i = .int .i64 0/\Hid (Below X w wr)) (λi _=>0)
   case atStart=>exact⟨rfl,aw⟩
   case round=>
    obtain⟨rfl,AP⟩:=hrel;obtain⟨wt,rfl⟩:=aaX wr;go_wp2_with fail;refine bodyPost_ret (v:=.slice none 0 0) (by simp[results,results93,go_sem]) rfl ?_;exact⟨rfl,by rw[HX.out];exact AP.out⟩
end
section
open Go.RowKit Go.Shelf
attribute [local go_sem] Oper.semAt_some
theorem Np.jW.loop{known:List Np.Signed}(h:Np.jW known)(t:Int)(n:List UInt8):Np.Found.loop∉Np.lx known t 8 n:=by
 intro hm;rw[Np.lx] at hm
 cases hc:Np.fS known n t with
 | some y=>rw[hc] at hm;simp at hm
 | none=>
  rw[hc] at hm;dsimp only at hm;rw[h.alias,Np.yl,h.wl,h.den] at hm;simp at hm
theorem bcZ(kv adv:Value)(known:List Np.Signed)(ey:Hid (Np.jW known))(fZ:known.length<=1000)(rV:∀ x∈known,Np.bi x.set=true)(r:Nat)(kvs:List ((List UInt8×Int)×Value))(an n:ByteArray)(iC:Np.ai n.data.toList=true)(aty al at' dr t:Int)(bj bq B:Nat)(w:World)(hR:cr w B)(hk:SlR az 5 w B kv known)(ha:∃ A n c,adv = .slice A n c)(hr:r<w.heap.size)(hrq:r≠bq)(hm:fB r kvs w)(hc:kz known w B kvs)(hBj:B<=bj)(hBq:B<=bq)(hne:bj≠bq)
 (cj:w.heap[bj]?=some (.cells [kv,.map (some r),.string an,.int .i64 aty,.int .i64 al,adv,.int .i64 at',.int .i64 dr].toArray 80 (0,0))) (cq:w.heap[bq]?=some (.cells [Value.string n,.int .i64 t].toArray 27 (0,0))) :
 Jm prog 90 (λy=>#[y,.pointer (some ⟨bj,0,none⟩),.pointer (some ⟨bq,0,none⟩)]) (λx:FV=>#[.agg x.1.toArray]) (wM (Np.lx known t 8 n.data.toList) w B) (PJ (Np.lx known t 8 n.data.toList) w B) (λk=>k<B\/k=bj\/k=r) (λk=>k=bq) w:=by
 intro l J Jx S W hW FA hJ J5 hY hS Kc hS' h0;obtain⟨LS,tm⟩:=aaK (Np.lx known t 8 n.data.toList);rw[tm] at hY |-;have xA:=((FA.2 bq rfl).2).trans cq;have CD:=((hW.2 bj (.inr (.inl rfl))).2).trans cj;have ou:=(hW.2 r (.inr (.inr rfl))).2;have hrW:r<W.heap.size:=by have:=hW.1;omega
 have b1K:bq<W.heap.size:=(eQ.1 xA).1;have b1J:bj<W.heap.size:=(eQ.1 CD).1;have hSq:¬ S bq:=λh=>Kc bq h rfl;have hSj:¬ S bj:=λh=>hS bj h (.inr (.inl rfl));have hSr:¬ S r:=λh=>hS r h (.inr (.inr rfl));have XQ:=jq tm;have eN:=jq iC;have F5:=nS iC;clear tm iC;refine callsIn_of_wp func90 rfl trivial ?_ rfl;simp only[ntmps90,List.size_toArray,List.length_cons,List.length_nil,Nat.reduceAdd,Nat.reduceSub,Array.replicate_succ,Array.replicate_zero,List.push_toArray,List.append_toArray,List.nil_append,List.cons_append];gi_wp2_with fail;obtain⟨A,N,C,rfl,_,_,_⟩:=cE hk;obtain⟨aA,aN,aC,rfl⟩:=ha;have jB:Below B ({ W with heap:=w.heap } : World) W:=⟨rfl,rfl,rfl,hW.1,λk hk=>(hW.2 k (.inl hk)).2⟩;have bN:=jq jB;have XT:Hid (fB r kvs W):=jq (hm.keep' ou);have lB:Hid (kz known ({ W with heap:=w.heap } : World) B kvs):=jq (λn t=>⟨(hc n t).1,λs hs=>by obtain⟨e,h1,h2⟩:=(hc n t).2 s hs;exact⟨e,h1,L9 h2 rfl⟩⟩);have Ol:Hid (cr ({ W with heap:=w.heap } : World) B):=jq hR;have vY:Hid (SlR az 5 ({ W with heap:=w.heap } : World) B (.slice A N C) known):=jq (Mc hk rfl (λe x h=>L9 h rfl));have fz:=jq rV;clear hm hc jB hR hk;gi_loopw [4] (λv wr=>aeQ known t LS w ({ W with heap:=w.heap } : World) B bj bq r kvs (.cells [Value.slice A N C,.map (some r),.string an,.int .i64 aty,.int .i64 al,.slice aA aN aC,.int .i64 at',.int .i64 dr].toArray 80 (0,0)) J S W v wr) (λv _=>9 - (intOf v).toNat)
 case atStart=>
  exact⟨n,0,[],S,rfl,⟨by omega,eN.out,by rw[<-XQ.out];rfl⟩,⟨by simp,λx hx=>by simp at hx⟩,F5,xA,CD,h0,hS',λi e=>.inl e,bQ _,bN.out,XT.out⟩
 case round=>
  obtain⟨cur,k,pre,S1,rfl,Dk,fe,aKZ,lY,KC,tl,eH,bJ,xV,aT,F4⟩:=hrel;obtain⟨ws,rfl⟩:=aaX wr;have I7:=jq Dk;have dj:=jq fe;have mv:=jq lY;have Iu:=jq KC;have kD:=jq aT;have lr:r<ws.heap.size:=by omega
  have lbq:bq<ws.heap.size:=by omega
  have lbj:bj<ws.heap.size:=by omega
  have j1:=af [_,_,_,_,_,_,_,_] KC 1 _ rfl;have q0:=af [_,_] lY 0 _ rfl;have q1:=af [_,_] lY 1 _ rfl;have ep:=DL ws 77 44 underlying77 r kvs F4 (cur.data.toList,t) _ (zeroValue44 ws);rw[Al] at ep;have nC:=lB.out cur.data.toList t;have yS:=jq F4;clear Dk fe lY KC aT F4
  cases gP:Np.fS known cur.data.toList t with
  | some y=>
   obtain⟨e',cZ,gG⟩:=nC.2 y gP;have YQ:=jq gG;obtain⟨ys,ydA,ydn,ydc,ygA,ygn,ygc,rfl,_,_,_,_,_,_⟩:=kr gG;have pN:=jq gP;rw[cZ,Option.getD_some,Option.isSome_some] at ep;clear nC gP cZ gG;have Bt:Hid (LS=pre.map (·.2) ++ [.set y]):=jq (by
    rw[I7.out.2.2,Np.lx,pN.out])
   have Cs:BW w B [.int .i64 0,.string ys,.int .i64 y.set.type,.int .i64 y.set.life,.slice ydA ydn ydc,.slice ygA ygn ygc,.string ⟨#[]⟩,.int .i64 0] (.set y):=⟨_,L9 YQ.out rfl,rfl⟩;have xP:=dj.out.add Cs (rest:=[]) Bt.out;have Bz:=jq xP;obtain⟨w5,aS⟩:=aaK (ws.alloc (.cells #[.string ys,.int .i64 y.set.type,.int .i64 y.set.life,.slice ydA ydn ydc,.slice ygA ygn ygc] 44));have aO:Below ws.heap.size ws w5:=by rw[<-aS];exact aG _ _
   have qU:=aO.size;have Rk:=hJ _ _ _ _ tl (ItO.of_below aO);obtain⟨fn,tmps,assign,body,hy,zw⟩:=hY pre _ S1 w5 xP Rk (λi e=>by have:=eH i e;omega) (by omega);have Ab:Sem.run prog (Instr.yield l #[.agg #[.int .i64 0,.string ys,.int .i64 y.set.type,.int .i64 y.set.life,.slice ydA ydn ydc,.slice ygA ygn ygc,.string ⟨#[]⟩,.int .i64 0]]) w5 = .ok (.round l fn tmps assign body) w5:=hy;have p5:=de (r:=[.string ys,.int .i64 y.set.type,.int .i64 y.set.life,.slice ydA ydn ydc,.slice ygA ygn ygc]) rfl aS;have s0:=p5 0 _ rfl;have s1:=p5 1 _ rfl;have s2:=p5 2 _ rfl;have s3:=p5 3 _ rfl;have s4:=p5 4 _ rfl;clear hy Rk xP Cs aO p5;gi_wp2_with fail;clear aS;gi_wp2_with fail;refine⟨rfl,zw.mono ?_⟩;rintro e W3 ⟨S3,cp,kl,ma,(⟨rfl,qo⟩ | ⟨rfl,qr⟩)⟩
   all_goals
    gi_wp2_with fail;refine bodyPost_ret (results_none rfl _ _ _) rfl ?_
   ·refine⟨⟨_,rfl⟩,.inl ⟨_,S3,Bz.out.fin (by rw[Bt.out,List.map_append];rfl),qo,λi h=>?_⟩⟩;rcases kl i h with h | h
    ·exact bJ i h
    ·right;omega
   ·refine⟨⟨_,rfl⟩,.inr ⟨_,S3,Bz.out,qr,λi h=>?_⟩⟩;rcases kl i h with h | h
    ·exact bJ i h
    ·right;omega
  | none=>
   have pN:=jq gP;rw[nC.1 gP,Option.getD_none,Option.isSome_none] at ep;have fY:=λj u hj=>af [_,_,_,_,_,_,_,_] Iu.out j u hj;have j0:=fY 0 _ rfl;have j2:=fY 2 _ rfl;have j3:=fY 3 _ rfl;have j4:=fY 4 _ rfl;have j5:=fY 5 _ rfl;have j6:=fY 6 _ rfl;have j7:=fY 7 _ rfl;clear nC gP fY;gi_wp2_with fail;obtain⟨w5,aS⟩:=aaK (ws.alloc (.cells #[.string ⟨#[]⟩,.int .i64 0,.int .i64 0,.slice none 0 0,.slice none 0 0] 44));have aO:Below ws.heap.size ws w5:=by rw[<-aS];exact aG _ _
   have qU:=aO.size;have JW:Below B ({ W with heap:=w.heap } : World) w5:=kD.out.trans (aO.abQ);rw[aS];clear aS ep j0 j1 j2 j3 j4 j5 j6 j7 q0 q1;refine⟨trivial,rfl,(callsIn_wide.2 (ahY (.slice A N C) (.slice aA aN aC) known r kvs an cur aty al at' dr t w5 B (by omega) ⟨_,_,_,rfl⟩ ⟨_,_,_,rfl⟩ (by omega) (yS.out.keep aO (by omega)) (lB.out.keep JW))).mono ?_⟩;rintro e w6 ⟨als,aa,ab,adA,adn,adc,agA,agn,agc,rfl,bE,RH⟩;have V7:=jq RH;have bH:=jq (aO.trans (bE.mono qU));have Wm:=jq (JW.trans (bE.abQ));have px:=bE.size;clear aO bE JW RH;obtain⟨O,hO⟩:=aaK (Np.rG known cur.data.toList t);rw[hO] at V7 |-;have HO:=jq hO;clear hO
   cases O with
   | none=>
    rw[Option.isSome_none];have XR:Hid (LS=pre.map (·.2)++Np.yl known cur.data.toList t):=jq (by
     rw[I7.out.2.2,Np.lx,pN.out];dsimp only;rw[HO.out])
    have rz:Hid (Np.ai cur.data.toList=true):=jq I7.out.2.1;obtain⟨w7,ko⟩:=aaK (w6.alloc (.cells #[.string als,.int .i64 aa,.int .i64 ab,.slice adA adn adc,.slice agA agn agc] 44));have bF:Below w6.heap.size w6 w7:=by rw[<-ko];exact aG _ _
    have qV:=bF.size;have cw:=aaZ bH bF;have D7:=aaZ Wm bF;have XC:=jq ((cw.out.block bj lbj).trans Iu.out);have ww:=jq ((cw.out.block bq lbq).trans mv.out);have fY:=λj u hj=>af [_,_,_,_,_,_,_,_] XC.out j u hj;have j0:=fY 0 _ rfl;have j1:=fY 1 _ rfl;have j2:=fY 2 _ rfl;have j3:=fY 3 _ rfl;have j4:=fY 4 _ rfl;have j5:=fY 5 _ rfl;have j6:=fY 6 _ rfl;have j7:=fY 7 _ rfl;have q0:=af [_,_] ww.out 0 _ rfl;have q1:=af [_,_] ww.out 1 _ rfl;clear bF fY;gi_wp2_with fail;clear ko;gi_wp2_with fail;refine⟨trivial,rfl,(callsIn_wide.2 (bNQ (.slice A N C) (.slice aA aN aC) known ey fZ fz.out r kvs an cur rz.out aty al at' dr t w7 B (by omega) ((Ol.out.keep D7.out).more (by omega)) (vY.out.keep ax D7.out) ⟨_,_,_,rfl⟩ (by omega) (yS.out.keep cw.out (by omega)) (lB.out.keep D7.out))).mono ?_⟩;rintro e w9 ⟨rfl,cW⟩;have Lw:=cW.size;have eJ:=aaZ cw cW;have D8:=aaZ D7 cW;clear j0 j1 j2 j3 j4 j5 j6 j7 q0 q1 cW
    focus
     have XD:=jq ((eJ.out.block bj lbj).trans Iu.out);have EF:=jq ((eJ.out.block bq lbq).trans mv.out);have fY:=λj u hj=>af [_,_,_,_,_,_,_,_] XD.out j u hj;have j0:=fY 0 _ rfl;have j1:=fY 1 _ rfl;have j2:=fY 2 _ rfl;have j3:=fY 3 _ rfl;have j4:=fY 4 _ rfl;have j5:=fY 5 _ rfl;have j6:=fY 6 _ rfl;have j7:=fY 7 _ rfl;have q0:=af [_,_] EF.out 0 _ rfl;have q1:=af [_,_] EF.out 1 _ rfl;clear fY;gi_wp2_with fail;refine⟨trivial,rfl,(callsIn_wide.2 (bKQ (.slice A N C) (.slice aA aN aC) known ey fZ fz.out r an cur rz.out aty al at' dr t w9 B (by omega) ((Ol.out.keep D8.out).more (by omega)) (vY.out.keep ax D8.out) ⟨_,_,_,rfl⟩)).mono ?_⟩;rintro e wa ⟨rfl,dE⟩;have jK:=dE.size;replace eJ:=aaZ eJ dE;replace D8:=aaZ D8 dE;have Oa:=jq ((eJ.out.block bq lbq).trans mv.out);clear j0 j1 j2 j3 j4 j5 j6 j7 q0 q1 dE
     focus
      have q0:=af [_,_] Oa.out 0 _ rfl;have q1:=af [_,_] Oa.out 1 _ rfl;have Bt:Hid (LS=pre.map (·.2) ++ [.miss cur.data.toList t]):=jq (by
       rw[XR.out,Np.yl,ey.out.wl,ey.out.den];simp)
      have Cs:BW w B [.int .i64 1,.string ⟨#[]⟩,.int .i64 0,.int .i64 0,.slice none 0 0,.slice none 0 0,.string cur,.int .i64 t] (.miss cur.data.toList t):=⟨cur,rfl,by omega,rfl⟩;have xP:=dj.out.add Cs (rest:=[]) Bt.out;have Bz:=jq xP;have Rl:=hJ _ _ _ _ tl (ItO.of_below eJ.out);obtain⟨fn,tmps,assign,body,hy,zw⟩:=hY pre _ S1 wa xP Rl (λi e=>by have:=eH i e;omega) (by omega);have Ab:Sem.run prog (Instr.yield l #[.agg #[.int .i64 1,.string ⟨#[]⟩,.int .i64 0,.int .i64 0,.slice none 0 0,.slice none 0 0,.string cur,.int .i64 t]]) wa = .ok (.round l fn tmps assign body) wa:=hy;clear hy Rl xP Cs;gi_wp2_with fail;refine⟨rfl,zw.mono ?_⟩;rintro e W3 ⟨S3,cp,kl,ma,(⟨rfl,qo⟩ | ⟨rfl,qr⟩)⟩
      all_goals
       gi_wp2_with fail;refine bodyPost_ret (results_none rfl _ _ _) rfl ?_
      ·refine⟨⟨_,rfl⟩,.inl ⟨_,S3,Bz.out.fin (by rw[Bt.out,List.map_append];rfl),qo,λi h=>?_⟩⟩;rcases kl i h with h | h
       ·exact bJ i h
       ·right;omega
      ·refine⟨⟨_,rfl⟩,.inr ⟨_,S3,Bz.out,qr,λi h=>?_⟩⟩;rcases kl i h with h | h
       ·exact bJ i h
       ·right;omega
   | some a=>exact absurd (HO.out.symm.trans (ey.out.alias _ _)) (by simp)
end
end Go.Proofs.YtadhigmjilijcaaGreatDoor
