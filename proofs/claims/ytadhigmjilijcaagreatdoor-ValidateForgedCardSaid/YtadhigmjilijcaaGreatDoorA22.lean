/- No condition. -/
import Derived.Test.YtadhigmjilijcaaGreatDoorA18
import Derived.Test.YtadhigmjilijcaaGreatDoorA19
import Derived.Test.YtadhigmjilijcaaGreatDoorA20
set_option linter.all false
set_option maxRecDepth 100000
set_option maxHeartbeats 8000000
namespace Go.Proofs.YtadhigmjilijcaaGreatDoor
open Go.Proofs.Tryz
section
open Go.RowKit
def jd(known:List Np.Signed)(w:World)(B:Nat)(kvs:List ((List UInt8×Int)×Value)):Prop:=
 ∀ n t,(Np.eu known n t=none->kvs.lookup (n,t)=none)/\(∀ s,Np.eu known n t=some s->∃ e:List Value,kvs.lookup (n,t)=some (.agg e.toArray)/\aB w B e s)
theorem jd.keep{known:List Np.Signed}{w w':World}{B:Nat}{kvs:List ((List UInt8×Int)×Value)}(h:jd known w B kvs)(hb:Below B w w'):jd known w' B kvs:=
 λn t=>⟨(h n t).1,λs hs=>by obtain⟨e,h1,h2⟩:=(h n t).2 s hs;exact⟨e,h1,az _ _ _ _ _ h2 hb⟩⟩
theorem Np.Mj(l:List Np.Signed)(x:Np.Signed)(n:List UInt8)(t:Int):Np.eu (l ++ [x]) n t=(Np.eu l n t).or (if (x.set.name == n&&decide (x.set.type=t))&&Np.aE x != [] then some x else none):=by
 unfold Np.eu;rw[List.find?_append];congr 1;simp only[List.find?_cons,List.find?_nil];split<;>simp_all
theorem jd.skip{l:List Np.Signed}{x:Np.Signed}{w:World}{B:Nat}{kvs:List ((List UInt8×Int)×Value)}(h:jd l w B kvs)(hx:Np.aE x = []\/(Np.eu l x.set.name x.set.type).isSome):jd (l ++ [x]) w B kvs:=by
 intro n t;have he:Np.eu (l ++ [x]) n t=Np.eu l n t:=by
  rw[Np.Mj];by_cases hm:((x.set.name == n&&decide (x.set.type=t))&&Np.aE x != [])=true
  ·rw[QbQ hm];simp only[Bool.and_eq_true,beq_iff_eq,Qa,bne_iff_ne] at hm;obtain⟨⟨rfl,rfl⟩,h3⟩:=hm;rcases hx with hx | hx
   ·exact absurd hx h3
   ·obtain⟨y,hy⟩:=Option.isSome_iff_exists.1 hx;rw[hy];rfl
  ·rw[Qc hm,Option.or_none]
 rw[he];exact h n t
theorem jd.add{l:List Np.Signed}{x:Np.Signed}{w:World}{B:Nat}{kvs:List ((List UInt8×Int)×Value)}(h:jd l w B kvs)(hx:Np.aE x≠[])(_:Np.eu l x.set.name x.set.type=none){e:List Value}(he:aB w B e x):jd (l ++ [x]) w B (kvs ++ [((x.set.name,x.set.type),.agg e.toArray)]):=by
 intro n t;rw[Np.Mj,List.lookup_append]
 cases hc:Np.eu l n t with
 | some s=>
  refine⟨λh0=>by simp at h0,λs' hs=>?_⟩;simp only[Option.some_or,Option.some.injEq] at hs;subst hs;obtain⟨e',h1,h2⟩:=(h n t).2 s hc;exact⟨e',by rw[h1];rfl,h2⟩
 | none=>
  rw[(h n t).1 hc,Option.none_or,Option.none_or];by_cases hm:((x.set.name == n&&decide (x.set.type=t))&&Np.aE x != [])=true
  ·rw[QbQ hm];simp only[Bool.and_eq_true,beq_iff_eq,Qa,bne_iff_ne] at hm;obtain⟨⟨rfl,rfl⟩,h3⟩:=hm;refine⟨λh0=>by simp at h0,λs hs=>?_⟩
   cases hs
   exact⟨e,by rw[List.lookup_cons_self],he⟩
  ·rw[Qc hm];refine⟨λ_=>?_,λs hs=>by cases hs⟩;have hne:((n,t) == (x.set.name,x.set.type))=false:=by
    rw[beq_eq_false_iff_ne];intro e0;simp only[Prod.mk.injEq] at e0;obtain⟨rfl,rfl⟩:=e0;exact hm (by simp[hx])
   rw[List.lookup_cons,hne];rfl
def Q7(known:List Np.Signed)(B:Nat)(w:World)(e:Ending)(w':World):Prop:=
 ∃ (r:Nat) (kvs:List ((List UInt8×Int)×Value)),e = .returned (.map (some r))/\w.heap.size<=r/\r<w'.heap.size/\gk r kvs w'/\jd known w' B kvs/\Below w.heap.size w w'
theorem Mi(kv:Value)(known:List Np.Signed)(w:World)(B:Nat)(hB:B<=w.heap.size)(hk:SlR aB 5 w B kv known)(gG:known.length<=1000) :
 Calls prog 35 #[kv] w (Q7 known B w):=by
 have HK:=jq hk;obtain⟨A,N,C,rfl,hN,Yk,_⟩:=aM hk;have HN:=jq hN;have Cz:N<=1000:=by omega
 have q9:∀ (w:World),(Instr.makeMap 77 none).run prog w = .ok (.map (some w.heap.size)) (w.alloc (.map #[] 0)):=λw=>by
  simp[Instr.makeMap,Result.andThen]
 clear hk hN gG;go_enter func35,ntmps35;go_wp2_with fail;clear q9;go_loopw [12] (λi wr=>∃ k:Nat,k<=N/\i = .int .i64 k/\w.heap.size<wr.heap.size/\Hid (Below w.heap.size w wr)/\∃ kvs,Hid (gk w.heap.size kvs wr)/\Hid (jd (known.take k) wr B kvs)) (λi _=>N - (intOf i).toNat)
 case atStart=>exact⟨0,jQ _,rfl,by simp,jq (aj _ _),[],jq (gk.made w),jq (λn t=>⟨λ_=>rfl,λs hs=>by simp[Np.eu] at hs⟩)⟩
 case round=>
  obtain⟨k,hk,rfl,au,HB,kvs,HM,HC⟩:=hrel;obtain⟨ws,rfl⟩:=aRX wr;by_cases af:k<N
  ·obtain⟨x,eP⟩:∃ x,known[k]?=some x:=⟨_,aQ (by rw[HN.out];exact af)⟩;obtain⟨b,o,c2,s,dv,sv,hA,dB,_,dq,eX,bZ,cx,e0,e1,e2,e3,e4⟩:=mE (HK.out.keep az (HB.out.mono hB)) eP;simp only[Value.slice.injEq] at hA;obtain⟨rfl,-,rfl⟩:=hA;obtain⟨dA,dn,dc,rfl,_,_,_⟩:=aM bZ;obtain⟨gA,gn,gc,rfl,_,_,_⟩:=aM cx;have gj:=jq dq;have iO:=jq cx;have TQ:Hid (aB ws B [.string s,.int .i64 x.set.type,.int .i64 x.set.life,.slice dA dn dc,.slice gA gn gc] x):=jq ⟨s,_,_,dq,eX,bZ,cx,rfl⟩;have fe:Hid (known.take (k+1)=known.take k ++ [x]):=jq (by
    obtain⟨hl,he⟩:=cQ.1 eP;rw[fQ hl,he])
   have dS:=kNN k;have dp:(k:Int)<(N:Int):=by omega
   obtain⟨w5,bc⟩:=aRZ (ws.alloc (.cells #[.string s,.int .i64 x.set.type,.int .i64 x.set.life,.slice dA dn dc,.slice gA gn gc] 44));obtain⟨w6,cS⟩:=aRZ (w5.alloc (.cells #[.string s,.int .i64 x.set.type] 27));have aI:Below ws.heap.size ws w5:=by rw[<-bc];exact aj _ _
   have bh:Below w5.heap.size w5 w6:=by rw[<-cS];exact aj _ _
   have l5:ws.heap.size<w5.heap.size:=by rw[<-bc];simp
   have l6:w5.heap.size<w6.heap.size:=by rw[<-cS];simp
   have p5:=bD (r:=[.string s,.int .i64 x.set.type,.int .i64 x.set.life,.slice dA dn dc,.slice gA gn gc]) rfl bc;have p6:=bD (r:=[.string s,.int .i64 x.set.type]) rfl cS;have aU:=jq (aI.trans (bh.aSZ));have yh:=jq (HM.out.keep aU.out au);have kD:Hid (∀ wz,Below w6.heap.size w6 wz->∀ (j:Nat) u,[Value.string s,.int .i64 x.set.type,.int .i64 x.set.life,.slice dA dn dc,.slice gA gn gc][j]?=some u->wz.cell? ⟨ws.heap.size,j,none⟩=some u):=jq (λwz hb j u hj=>aQY hb ((cl bh (by omega)).trans (p5 j u hj)));have qI:Hid (∀ wz,Below w6.heap.size w6 wz->∀ (j:Nat) u,[Value.string s,.int .i64 x.set.type][j]?=some u->wz.cell? ⟨w5.heap.size,j,none⟩=some u):=jq (λwz hb j u hj=>aQY hb (p6 j u hj));have hz:(zeroValue 44).run prog w6 = .ok (.agg #[.string ⟨#[]⟩,.int .i64 0,.int .i64 0,.slice none 0 0,.slice none 0 0]) w6:=zeroValue44 w6;have fi:=DS w6 77 44 underlying77 w.heap.size kvs yh.out (s.data.toList,x.set.type) _ hz;rw[DN,dq] at fi;have a0:=p5 0 _ rfl;have a1:=p5 1 _ rfl;have a2:=p5 2 _ rfl;have a3:=p5 3 _ rfl;have a4:=p5 4 _ rfl;have a0':=kD.out w6 (vQ _ _) 0 _ rfl;have a1':=kD.out w6 (vQ _ _) 1 _ rfl;have q0:=qI.out w6 (vQ _ _) 0 _ rfl;have q1:=qI.out w6 (vQ _ _) 1 _ rfl;have r8:=jq eP;have js:=HC.out x.set.name x.set.type
   cases eV:Np.eu (known.take k) x.set.name x.set.type with
   | some y=>
    obtain⟨e',cp,cP⟩:=js.2 y eV;obtain⟨ys,ydA,ydn,ydc,ygA,ygn,ygc,rfl,_,_,_,_,_,_⟩:=gZ cP;have mH:Hid ((Np.eu (known.take k) x.set.name x.set.type).isSome=true):=jq (by rw[eV];rfl);rw[cp,Option.getD_some,Option.isSome_some] at fi;clear js eV cp cP eP dq bZ cx hz p5 p6;go_wp2_with fail;clear bc;go_wp2_with fail;clear cS;go_wp2_with fail;go_roundw
    case rel=>exact⟨k+1,by omega,by go_num,by simp;omega,jq (HB.out.trans ((aU.out.mono HB.out.size).trans ((aj w6 _).mono (by have:=HB.out.size;omega)))),kvs,jq (yh.out.keep (aj w6 _) (by omega)),jq (by
     rw[fe.out];exact (HC.out.keep (aU.out.trans ((aj w6 _).aSZ) |>.aSZ)).skip (.inr mH.out))⟩
    case measure=>simp[intOf]<;>omega
   | none=>
    have mH:=jq eV;rw[js.1 eV,Option.getD_none,Option.isSome_none] at fi;clear js eV eP dq bZ cx hz p5 p6;have g0:=kD.out w6 (vQ _ _) 0 _ rfl;have g1:=kD.out w6 (vQ _ _) 1 _ rfl;have g2:=kD.out w6 (vQ _ _) 2 _ rfl;have g3:=kD.out w6 (vQ _ _) 3 _ rfl;have g4:=kD.out w6 (vQ _ _) 4 _ rfl;have l56:ws.heap.size<w6.heap.size:=by omega
    go_wp2_with fail;clear bc;go_wp2_with fail;clear cS;go_wp2_with fail;clear a0' a1' q0 q1 g0 g1 g2 g3 g4 fi;obtain⟨w7,eF⟩:=aRZ (w6.alloc (.cells #[.string ⟨#[]⟩,.int .i64 0,.int .i64 0,.slice none 0 0,.slice none 0 0] 44));have bm:Below w6.heap.size w6 w7:=by rw[<-eF];exact aj _ _
    rw[eF];clear eF;refine (Qp s x.set.type x.set.life _ _ x.sigs x.set w7 ((iO.out.keep cK ((aU.out.trans (bm.aSZ)).aSZ)).more da (by have:=bm.size;omega))).mono ?_;rintro e w8 ⟨c,rfl,⟨hc,_⟩,cu⟩;have cT:=jq (bm.trans (cu.mono bm.size));have BB:=jq (yh.out.keep cT.out (by omega));have bU:Hid (Below w.heap.size ws w8):=jq ((aU.out.trans (cT.out.aSZ)).aSZ);have l8:w6.heap.size<=w8.heap.size:=cT.out.size;have g0:=kD.out w8 cT.out 0 _ rfl;have g1:=kD.out w8 cT.out 1 _ rfl;have g2:=kD.out w8 cT.out 2 _ rfl;have g3:=kD.out w8 cT.out 3 _ rfl;have g4:=kD.out w8 cT.out 4 _ rfl;have q0:=qI.out w8 cT.out 0 _ rfl;have q1:=qI.out w8 cT.out 1 _ rfl;have tR:Hid (c.data.toList=Np.aE x):=jq hc;clear bm cu hc;by_cases sM:c.data.toList = []
    ·have bi:(c.toList == [])=true:=by rw[dQ,sM];rfl
     have tE:Hid (Np.aE x = []):=jq (by rw[<-tR.out];exact sM);clear sM;go_wp2_with fail;go_roundw
     case rel=>exact⟨k+1,by omega,by go_num,by omega,jq (HB.out.trans bU.out),kvs,BB,jq (by rw[fe.out];exact (HC.out.keep (bU.out.mono hB)).skip (.inl tE.out))⟩
     ·simp[intOf]<;>omega
    ·have bi:(c.toList == [])=false:=by rw[dQ];simpa using sM
     have tE:Hid (Np.aE x≠[]):=jq (by rw[<-tR.out];exact sM);have dG:=jq ((HC.out x.set.name x.set.type).1 mH.out);clear sM;go_wp2_with (at_mapUpdate;refine aPY w8 rfl _ _ _ 77 rfl 44 underlying77 w.heap.size kvs rfl BB.out (x.set.name,x.set.type) (by rw[<-gj.out,DN];rfl) (.agg #[.string s,.int .i64 x.set.type,.int .i64 x.set.life,.slice dA dn dc,.slice gA gn gc]) rfl dG.out ?_;intro w9 zU Am;have EH:=jq zU;have vU:=jq Am;clear zU Am);have bM:Below w.heap.size w8 w9:=vU.out.below (bQ _);go_roundw
     case rel=>exact⟨k+1,by omega,by go_num,by have:=bM.size;omega,jq ((HB.out.trans bU.out).trans bM),_,EH,jq (by
      rw[fe.out];exact (HC.out.keep ((bU.out.trans bM).mono hB)).add tE.out mH.out (az _ _ _ _ _ TQ.out ((bU.out.trans bM).mono hB)))⟩
     case measure=>simp[intOf]<;>omega
  ·obtain rfl:k=N:=by omega
   have HE:Hid (jd known ws B kvs):=jq (by have:=HC.out;rwa [kQ (by rw[HN.out];omega)] at this);go_wp2_with fail;go_ret;exact⟨w.heap.size,kvs,rfl,bQ _,au,HM.out,HE.out,HB.out⟩
def qf(kv:Value)(r:Nat)(an:ByteArray)(aty al:Int)(adv:Value)(at' dr:Int):Value:=.agg #[kv,.map (some r),.string an,.int .i64 aty,.int .i64 al,adv,.int .i64 at',.int .i64 dr]
def Ed(B:Nat)(o:Option Np.Signed)(w:World)(e:Ending)(w':World):Prop:=
 ∃ (s:ByteArray) (a b:Int) (dA:Option Addr) (dn dc:Nat) (gA:Option Addr) (gn gc:Nat),e = .returned (.tuple #[.agg #[.string s,.int .i64 a,.int .i64 b,.slice dA dn dc,.slice gA gn gc],.bool o.isSome])/\Below w.heap.size w w'/\
   (∀ x,o=some x->aB w' B [.string s,.int .i64 a,.int .i64 b,.slice dA dn dc,.slice gA gn gc] x)
theorem FD{w w':World}{N:Nat}{p:Nat}(h:Below N w w')(hp:N<=p)(v0 v1 v2 v3 v4:Value):Below N w (((((w'.setCell ⟨p,0,none⟩ v0).setCell ⟨p,1,none⟩ v1).setCell ⟨p,2,none⟩ v2).setCell ⟨p,3,none⟩ v3).setCell ⟨p,4,none⟩ v4):=
 ((((h.setCell (p:=⟨p,0,none⟩) hp _).setCell (p:=⟨p,1,none⟩) hp _).setCell (p:=⟨p,2,none⟩) hp _).setCell (p:=⟨p,3,none⟩) hp _).setCell (p:=⟨p,4,none⟩) hp _
theorem VS(kv adv:Value)(known:List Np.Signed)(r:Nat)(kvs:List ((List UInt8×Int)×Value))(an n:ByteArray)(aty al at' dr t:Int)(w:World)(B:Nat)(hB:B<=w.heap.size)(hk:∃ A n c,kv = .slice A n c)(ha:∃ A n c,adv = .slice A n c)(hr:r<w.heap.size)(hm:gk r kvs w)(hc:jd known w B kvs) :
 Calls prog 91 #[qf kv r an aty al adv at' dr,.agg #[.string n,.int .i64 t]] w (Ed B (Np.n9 known n.data.toList t) w):=by
 obtain⟨A,N,C,rfl⟩:=hk;obtain⟨aA,aN,aC,rfl⟩:=ha;unfold qf;obtain⟨w1,ah⟩:=aRZ (w.alloc (.cells #[.slice A N C,.map (some r),.string an,.int .i64 aty,.int .i64 al,.slice aA aN aC,.int .i64 at',.int .i64 dr] 80));obtain⟨w2,aX⟩:=aRZ (w1.alloc (.cells #[.string n,.int .i64 t] 27));obtain⟨w3,ci⟩:=aRZ (w2.alloc (.cells #[.string ⟨#[]⟩,.int .i64 0,.int .i64 0,.slice none 0 0,.slice none 0 0] 44));have z1:w1.heap.size=w.heap.size+1:=by rw[<-ah];simp
 have z2:w2.heap.size=w.heap.size+1+1:=by rw[<-aX];simp[z1]
 have z3:w3.heap.size=w.heap.size+1+1+1:=by rw[<-ci];simp[z2]
 have ag:Below w1.heap.size w1 w2:=by rw[<-aX];exact aj _ _
 have ai:Below w2.heap.size w2 w3:=by rw[<-ci];exact aj _ _
 have am:Hid (Below w.heap.size w w3):=jq ((by rw[<-ah];exact aj _ _:Below w.heap.size w w1).trans ((ag.aSZ).trans (ai.aSZ)));have p1:=bD (r:=[.slice A N C,.map (some r),.string an,.int .i64 aty,.int .i64 al,.slice aA aN aC,.int .i64 at',.int .i64 dr]) rfl ah;have p2:=bD (r:=[.string n,.int .i64 t]) rfl aX;have p3:=bD (r:=[.string ⟨#[]⟩,.int .i64 0,.int .i64 0,.slice none 0 0,.slice none 0 0]) rfl ci;rw[z1] at p2;rw[z2] at p3;have j1:w3.cell? ⟨w.heap.size,1,none⟩=some (.map (some r)):=aQY ai ((cl ag (by omega)).trans (p1 1 _ rfl));have q0:w3.cell? ⟨w.heap.size+1,0,none⟩=some (.string n):=aQY ai (p2 0 _ rfl);have q1:w3.cell? ⟨w.heap.size+1,1,none⟩=some (.int .i64 t):=aQY ai (p2 1 _ rfl);have r0:=p3 0 _ rfl;have r1:=p3 1 _ rfl;have r2:=p3 2 _ rfl;have r3:=p3 3 _ rfl;have r4:=p3 4 _ rfl;have fr:∀ i,w3.frozen? ⟨w.heap.size+1+1,i,none⟩=false:=λi=>by
  have:=heap_alloc_new w2 (.cells #[.string ⟨#[]⟩,.int .i64 0,.int .i64 0,.slice none 0 0,.slice none 0 0] 44)
  rw[ci,z2] at this;simp[World.frozen?,this]
 have g9:=jq (hc.keep (am.out.mono hB));have EG:=jq (hm.keep am.out hr);obtain⟨O,hO⟩:=aRZ (Np.n9 known n.data.toList t);rw[hO];have HO:=jq hO;clear hO ag ai p1 p2 p3 hc hm;go_enter func91,ntmps91;have done:∀ (s:ByteArray) (a b:Int) (dA:Option Addr) (dn dc:Nat) (gA:Option Addr) (gn gc:Nat) (W:World),Below w.heap.size w3 W->(∀ x,O=some x->aB W B [.string s,.int .i64 a,.int .i64 b,.slice dA dn dc,.slice gA gn gc] x)->
  Ed B O w (.returned (.tuple #[.agg #[.string s,.int .i64 a,.int .i64 b,.slice dA dn dc,.slice gA gn gc],.bool O.isSome])) (((((W.setCell ⟨w.heap.size+1+1,0,none⟩ (.string s)).setCell ⟨w.heap.size+1+1,1,none⟩ (.int .i64 a)).setCell ⟨w.heap.size+1+1,2,none⟩ (.int .i64 b)).setCell ⟨w.heap.size+1+1,3,none⟩ (.slice dA dn dc)).setCell ⟨w.heap.size+1+1,4,none⟩ (.slice gA gn gc)):=by
  intro s a b dA dn dc gA gn gc W hW hx;have h5:=FD (p:=w.heap.size+1+1) (vQ (w.heap.size) W) (by omega) (.string s) (.int .i64 a) (.int .i64 b) (.slice dA dn dc) (.slice gA gn gc);exact⟨s,a,b,dA,dn,dc,gA,gn,gc,rfl,(am.out.trans hW).trans h5,λx h=>az _ _ _ _ _ (hx x h) (h5.mono hB)⟩
 have HD:=jq done;have JM:Hid (∀ (s:ByteArray) (a b:Int) (dA:Option Addr) (dn dc:Nat) (gA:Option Addr) (gn gc:Nat) (ob:Obj),(∀ x,O=some x->aB w3 B [.string s,.int .i64 a,.int .i64 b,.slice dA dn dc,.slice gA gn gc] x)->
  Ed B O w (.returned (.tuple #[.agg #[.string s,.int .i64 a,.int .i64 b,.slice dA dn dc,.slice gA gn gc],.bool O.isSome])) ((((((w3.setCell ⟨w.heap.size+1+1,0,none⟩ (.string s)).setCell ⟨w.heap.size+1+1,1,none⟩ (.int .i64 a)).setCell ⟨w.heap.size+1+1,2,none⟩ (.int .i64 b)).setCell ⟨w.heap.size+1+1,3,none⟩ (.slice dA dn dc)).setCell ⟨w.heap.size+1+1,4,none⟩ (.slice gA gn gc)).alloc ob)):=jq (by
  intro s a b dA dn dc gA gn gc ob hx;have h5:=(FD (p:=w.heap.size+1+1) (vQ (w.heap.size) w3) (by omega) (.string s) (.int .i64 a) (.int .i64 b) (.slice dA dn dc) (.slice gA gn gc)).alloc (by simp only[World.setCell,Array.size_modify];omega) ob;exact⟨s,a,b,dA,dn,dc,gA,gn,gc,rfl,am.out.trans h5,λx h=>az _ _ _ _ _ (hx x h) (h5.mono hB)⟩)
 have l3:w.heap.size+1+1<w3.heap.size:=by omega
 clear done;by_cases h3:t=3
 ·have h3':(t == 3)=true:=by simpa using h3
  have HE:Hid (O=none):=jq (by rw[<-HO.out,Np.n9,QbQ (.inl h3)]);clear h3;go_wp2_with fail;clear ah aX ci;go_wp2_with fail;refine bodyPost_ret (v:=.tuple #[.agg #[.string ⟨#[]⟩,.int .i64 0,.int .i64 0,.slice none 0 0,.slice none 0 0],.bool false]) (by simp[results,results91,go_sem,r0,r1,r2,r3,r4]) rfl ?_
  have:=HD.out ⟨#[]⟩ 0 0 none 0 0 none 0 0 w3 (vQ _ _) (λx h=>by rw[HE.out] at h;cases h)
  rw[HE.out] at this |-;exact this
 have h3':(t == 3)=false:=by simpa using h3
 by_cases h8:t=8
 ·have h8':(t == 8)=true:=by simpa using h8
  have HE:Hid (O=none):=jq (by rw[<-HO.out,Np.n9,QbQ (.inr h8)]);clear h3 h8;go_wp2_with fail;clear ah aX ci;go_wp2_with fail;refine bodyPost_ret (v:=.tuple #[.agg #[.string ⟨#[]⟩,.int .i64 0,.int .i64 0,.slice none 0 0,.slice none 0 0],.bool false]) (by simp[results,results91,go_sem,r0,r1,r2,r3,r4]) rfl ?_
  have:=HD.out ⟨#[]⟩ 0 0 none 0 0 none 0 0 w3 (vQ _ _) (λx h=>by rw[HE.out] at h;cases h)
  rw[HE.out] at this |-;exact this
 have h8':(t == 8)=false:=by simpa using h8
 have HE:Hid (Np.eu known n.data.toList 3=O):=jq (by rw[<-HO.out,Np.n9,Qc (by rintro (h | h);exact h3 h;exact h8 h)]);have hz:(zeroValue 44).run prog w3 = .ok (.agg #[.string ⟨#[]⟩,.int .i64 0,.int .i64 0,.slice none 0 0,.slice none 0 0]) w3:=zeroValue44 w3;have fi:=DS w3 77 44 underlying77 r kvs EG.out (n.data.toList,3) _ hz;rw[DN] at fi;have js:=g9.out n.data.toList 3;clear h3 h8 hz
 cases O with
 | none=>
  rw[js.1 HE.out,Option.getD_none,Option.isSome_none] at fi;clear js;go_wp2_with fail;clear ah aX ci;go_wp2_with fail;refine bodyPost_ret (v:=.tuple #[.agg #[.string ⟨#[]⟩,.int .i64 0,.int .i64 0,.slice none 0 0,.slice none 0 0],.bool false]) (by simp[results,results91,go_sem,r0,r1,r2,r3,r4,l3]) rfl ?_;exact JM.out ⟨#[]⟩ 0 0 none 0 0 none 0 0 _ (λx h=>by cases h)
 | some y=>
  obtain⟨e',cp,cP⟩:=js.2 y HE.out;obtain⟨ys,ydA,ydn,ydc,ygA,ygn,ygc,rfl,_,_,_,_,_,_⟩:=gZ cP;have HR:=jq cP;rw[cp,Option.getD_some,Option.isSome_some] at fi;clear js cp cP;go_wp2_with fail;clear ah aX ci;go_wp2_with fail;refine bodyPost_ret (v:=.tuple #[.agg #[.string ys,.int .i64 y.set.type,.int .i64 y.set.life,.slice ydA ydn ydc,.slice ygA ygn ygc],.bool true]) (by simp[results,results91,go_sem,r0,r1,r2,r3,r4,l3]) rfl ?_;exact JM.out ys _ _ ydA ydn ydc ygA ygn ygc _ (λx h=>by cases h;exact HR.out)
theorem Fu(x:Np.DSet)(hx:Np.NextOk x)(e:List Value)(n:ByteArray)(cE:Np.ao n.data.toList=true)(w:World)(he:bO w w.heap.size e x) :
 Calls prog 219 #[.agg e.toArray,.string n] w λe w'=>∃ c:ByteArray,e = .returned (.string c)/\c.data.toList=Np.qO x n.data.toList/\Below w.heap.size w w':=by
 have xa:=nL cE;have mY:=DZ hx.val;obtain⟨s,tx,b,o,k,c,dn,dm,rfl,_,dp,sW,hs,au,hb,hc,rh,uY,mv,hn,wZ,fG,c0,c1,c2⟩:=xB he hx;have HS:=jq hs;have HT:=jq rh;have lU:=jq mY;have eC:=jq cE;have yy:=jq mv;obtain⟨w0,cN⟩:=aRZ (w.alloc (.cells #[.string s,.int .i64 8,.int .i64 x.life,.slice (some ⟨b,o,none⟩) k c] 25));have fY:=bD (r:=[.string s,.int .i64 8,.int .i64 x.life,.slice (some ⟨b,o,none⟩) k c]) rfl cN;have cF:Below w.heap.size w w0:=by rw[<-cN];exact aj _ _
 have l0:w.heap.size<w0.heap.size:=by rw[<-cN];simp
 have aG:=jq cF;have dX:Hid (∀ wz,Below w0.heap.size w0 wz->∀ (j:Nat) u,[Value.string s,.int .i64 8,.int .i64 x.life,.slice (some ⟨b,o,none⟩) k c][j]?=some u->wz.cell? ⟨w.heap.size,j,none⟩=some u):=jq (λwz hb j u hj=>(hb.cell (p:=⟨w.heap.size,j,none⟩) l0).trans (fY j u hj));have RJ:Hid (∀ wz,Below w.heap.size w wz->wz.cell? ⟨b,o,none⟩=some (.string tx)):=jq (λwz hz=>(hz.cell (p:=⟨b,o,none⟩) hb).trans c0);have y0:=fY 0 _ rfl;have y3:=fY 3 _ rfl;have dS:(0:Int)<(k:Int):=by omega
 clear hs rh mY hn he fY cF c0 c1 c2 cE mv;go_enter func219,ntmps219;go_wp2_with fail;clear cN;go_wp2_with fail;refine (Ce n s (by omega) (by omega) eC.out (by rw[HS.out];exact lU.out) w0).mono ?_;rintro e w2 ⟨d1,rfl,fw,ag⟩;have ax:=jq ag;have rN:=jq fw;have Ga:=aG.out.trans (ag.mono aG.out.size);have t0:=RJ.out w2 Ga;have dL:=jq Ga;clear y0 y3;have y3:=dX.out w2 ag 3 _ rfl;clear ag fw Ga;go_wp2_with fail;refine (Ce n tx (by omega) (by omega) eC.out yy.out w2).mono ?_;rintro e w3 ⟨d2,rfl,fS,ai⟩;have gK:=jq fS;have dM:=jq (dL.out.trans (ai.mono dL.out.size));clear ai fS t0 y3;go_wp2_with fail;refine (qk d2 d1 ?_ ?_ w3).mono ?_
 ·rw[<-be,gK.out];exact yQ (Np.Me eC.out) (by omega)
 ·rw[<-be,rN.out];exact yQ (Np.Me eC.out) (by omega)
 rintro e w4 ⟨rfl,av⟩;have lV:=jq (dM.out.trans (av.mono dM.out.size));obtain⟨r,hr⟩:=aRZ (Np.aT d2.data.toList d1.data.toList);rw[hr];have HR:=jq hr;clear hr av;have HE:Hid (Np.qO x n.data.toList=if r then d2.data.toList else d1.data.toList):=jq (by
  unfold Np.qO;rw[<-HR.out,rN.out,gK.out,HS.out,HT.out])
 cases r with
 | true=>
  go_wp2_with fail;go_ret;exact⟨d2,rfl,by rw[HE.out];rfl,lV.out⟩
 | false=>
  go_wp2_with fail;go_ret;exact⟨d1,rfl,by rw[HE.out];rfl,lV.out⟩
theorem Np.WA{ap n:List UInt8}{x:Np.DSet}(h:Np.ue ap x n=(true,0)):Np.ao n=true/\Np.NextOk x:=by
 unfold Np.ue at h;by_cases hc:(Np.rF ap&&(Np.ao n&&(Np.bo x&&Np.fy ap x)))=true
 ·simp only[Bool.and_eq_true] at hc;obtain⟨_,h2,h3,h4⟩:=hc;unfold Np.fy at h4;simp only[Bool.and_eq_true,Qa] at h4;exact⟨h2,h3,h4.1⟩
 ·rw[Qc hc] at h;cases h
theorem aKY(x:Np.DSet)(e:List Value)(z n a:ByteArray)(hz:z.size<=140737488355328)(hn:n.size<=140737488355328)(w:World)(hR:bL w w.heap.size)(he:bO w w.heap.size e x) :
 Calls prog 156 #[.agg e.toArray,.string z,.string n,.string a] w (aUQ w.heap.size w (.bool (Np.nN x z.data.toList n.data.toList a.data.toList))):=by
 have HE:=jq he;have dK:=jq hR;obtain⟨RES,co⟩:=aRZ (Np.nN x z.data.toList n.data.toList a.data.toList);rw[co];have aO:=jq co.symm;by_cases h8:x.type=8
 case' neg=>
  obtain⟨s,v,hs,au,hd,rfl⟩:=he;obtain⟨A,k,c,rfl,_,_,_⟩:=aM hd;have h8':(x.type != 8)=true:=by simpa using h8
  have mI:Hid (RES=false):=jq (by rw[aO.out,Np.nN,tQ h8];rfl);have HB:=jq (aj w);clear h8 co hs hd hR;go_enter func156,ntmps156;go_wp2_with fail;go_ret;exact⟨aw mI.out.symm,HB.out _⟩
 have HP:Hid (RES=(Np.ue z.data.toList x n.data.toList == (true,0)&&(!(Np.nM x&&Np.aT n.data.toList x.name)&&Np.qO x n.data.toList == a.data.toList))):=jq (by rw[aO.out,Np.nN,uQ h8,Bool.true_and]);have HX8:=jq h8;obtain⟨s,v,hs,au,hd,rfl⟩:=he;obtain⟨A,k,c,rfl,_,_,_⟩:=aM hd;rw[h8];have HE:Hid (bO w w.heap.size [.string s,.int .i64 8,.int .i64 x.life,.slice A k c] x):=jq (by have:=HE.out;rwa [h8] at this);have HS:=jq hs;obtain⟨w0,cN⟩:=aRZ (w.alloc (.cells #[.string s,.int .i64 8,.int .i64 x.life,.slice A k c] 25));have fY:=bD (r:=[.string s,.int .i64 8,.int .i64 x.life,.slice A k c]) rfl cN;have cF:Below w.heap.size w w0:=by rw[<-cN];exact aj _ _
 have l0:w.heap.size<w0.heap.size:=by rw[<-cN];simp
 have aG:=jq cF;have dX:Hid (∀ wz,Below w0.heap.size w0 wz->∀ (j:Nat) u,[Value.string s,.int .i64 8,.int .i64 x.life,.slice A k c][j]?=some u->wz.cell? ⟨w.heap.size,j,none⟩=some u):=jq (λwz hb j u hj=>(hb.cell (p:=⟨w.heap.size,j,none⟩) l0).trans (fY j u hj));have y0:=fY 0 _ rfl;have y1:=fY 1 _ rfl;have y2:=fY 2 _ rfl;have y3:=fY 3 _ rfl;clear hs hd hR co h8 fY cF;go_enter func156,ntmps156;go_wp2_with fail;clear cN;go_wp2_with fail;refine (Wz z n hz hn x _ w0 ((dK.out.keep aG.out).more aG.out.size) (HE.out.later aG.out)).mono ?_;rintro e w2 ⟨rfl,ag⟩;have ax:=jq ag;have dL:=jq (aG.out.trans (ag.mono aG.out.size));obtain⟨CV,qR⟩:=aRZ (Np.ue z.data.toList x n.data.toList);rw[qR] at HP;rw[qR];have dJ:=jq qR;clear ag qR y0 y1 y2 y3;obtain⟨cb,ce⟩:=CV;unfold Mk;dsimp only;by_cases h0:ce=0
 case' neg=>
  have h0':(ce != 0)=true:=by simpa using h0
  have mI:Hid (RES=false):=jq (by rw[HP.out,show ((cb,ce) == ((true,0):Bool×Int))=false by simp[h0]];rfl);clear h0;go_wp2_with fail;go_ret;exact⟨aw mI.out.symm,dL.out⟩
 have h0':(ce != 0)=false:=by simpa using h0
 cases cb with
 | false=>
  have mI:Hid (RES=false):=jq (by rw[HP.out];rfl);clear h0;go_wp2_with fail;go_ret;exact⟨aw mI.out.symm,dL.out⟩
 | true=>
  have uB:=Np.WA (by rw[dJ.out,h0]);have tI:Hid (RES=(!(Np.nM x&&Np.aT n.data.toList x.name)&&Np.qO x n.data.toList == a.data.toList)):=jq (by rw[HP.out,h0];rfl);have eC:=jq uB.1;have nq:=jq uB.2;obtain⟨s',tx,b,o,k',c',dn,dm,Ob,_,dp,sW,_,_,hb,hc,rh,uY,mv,ju,wZ,fG,c0,c1,c2⟩:=xB (HE.out.later dL.out) uB.2;simp only[List.cons.injEq,Value.slice.injEq,Value.string.injEq,true_and,and_true] at Ob;obtain⟨rfl,rfl,rfl,rfl⟩:=Ob;have g2:=Gh (n:=dn) (by omega) fG (t:=2) (by decide);have g4:=Gh (n:=dn) (by omega) fG (t:=4) (by decide);rw[show wrap64 (2 ^ 2)=4 by decide +kernel,ju] at g2;rw[show wrap64 (2 ^ 4)=16 by decide +kernel,ju] at g4;have g2:(bits BinOp.and IntKind.i64 dn 4 != 0)=Np.jX x 2:=by rw[ju];exact g2
  have g4:(bits BinOp.and IntKind.i64 dn 16 != 0)=Np.jX x 4:=by rw[ju];exact g4
  have g4:(bits BinOp.and IntKind.i64 dn 16 == 0)=!Np.jX x 4:=by rw[<-g4];simp[bne]
  have aS:(Np.nM x)=(Np.jX x 2&&!Np.jX x 4):=rfl;rw[aS] at tI;obtain⟨r2,i7⟩:=aRZ (Np.jX x 2);obtain⟨r4,ON⟩:=aRZ (Np.jX x 4);rw[i7] at g2 tI;rw[ON] at g4 tI;have dS:(0:Int)<(k:Int):=by omega
  have y3:=dX.out w2 ax.out 3 _ rfl;have y0:=dX.out w2 ax.out 0 _ rfl;have y1:=dX.out w2 ax.out 1 _ rfl;have y2:=dX.out w2 ax.out 2 _ rfl;clear h0 uB rh mv ju aS i7 ON c0 c2
  cases r2 with
  | false=>
   have tJ:Hid (RES=(Np.qO x n.data.toList == a.data.toList)):=jq (by rw[tI.out];simp);go_wp2_with fail;refine (Fu x nq.out _ n eC.out w2 (HE.out.later dL.out)).mono ?_;rintro e wz ⟨c9,rfl,qW,bM⟩;obtain⟨q,hq⟩:=aRZ (c9.data.toList == a.data.toList);have aW:(c9.toList == a.toList)=q:=by rw[dQ,dQ];exact hq
   have mI:Hid (RES=q):=jq (by rw[tJ.out,<-qW];exact hq);have jN:=jq (dL.out.trans (bM.mono dL.out.size));clear hq qW bM;go_wp2_with fail;go_ret;exact⟨aw mI.out.symm,jN.out⟩
  | true=>
   cases r4 with
   | true=>
    have tJ:Hid (RES=(Np.qO x n.data.toList == a.data.toList)):=jq (by rw[tI.out];simp);go_wp2_with fail;refine (Fu x nq.out _ n eC.out w2 (HE.out.later dL.out)).mono ?_;rintro e wz ⟨c9,rfl,qW,bM⟩;obtain⟨q,hq⟩:=aRZ (c9.data.toList == a.data.toList);have aW:(c9.toList == a.toList)=q:=by rw[dQ,dQ];exact hq
    have mI:Hid (RES=q):=jq (by rw[tJ.out,<-qW];exact hq);have jN:=jq (dL.out.trans (bM.mono dL.out.size));clear hq qW bM;go_wp2_with fail;go_ret;exact⟨aw mI.out.symm,jN.out⟩
   | false=>
    go_wp2_with fail;refine (qk n s hn (by omega) w2).mono ?_;rintro e w3 ⟨rfl,ai⟩;obtain⟨r,hr⟩:=aRZ (Np.aT n.data.toList s.data.toList);rw[hr];have HU:=jq hr;have am:=jq (ax.out.trans (ai.mono ax.out.size));have dM:=jq (dL.out.trans (ai.mono dL.out.size));clear y0 y1 y2 y3;have y3:=dX.out w3 am.out 3 _ rfl;have y0:=dX.out w3 am.out 0 _ rfl;have y1:=dX.out w3 am.out 1 _ rfl;have y2:=dX.out w3 am.out 2 _ rfl;clear hr ai
    cases r with
    | true=>
     have mI:Hid (RES=false):=jq (by rw[tI.out,<-HS.out,HU.out];rfl);go_wp2_with fail;go_ret;exact⟨aw mI.out.symm,dM.out⟩
    | false=>
     have tJ:Hid (RES=(Np.qO x n.data.toList == a.data.toList)):=jq (by rw[tI.out,<-HS.out,HU.out];simp);go_wp2_with fail;refine (Fu x nq.out _ n eC.out w3 (HE.out.later dM.out)).mono ?_;rintro e wz ⟨c9,rfl,qW,bM⟩;obtain⟨q,hq⟩:=aRZ (c9.data.toList == a.data.toList);have aW:(c9.toList == a.toList)=q:=by rw[dQ,dQ];exact hq
     have mI:Hid (RES=q):=jq (by rw[tJ.out,<-qW];exact hq);have jN:=jq (dM.out.trans (bM.mono dM.out.size));clear hq qW bM;go_wp2_with fail;go_ret;exact⟨aw mI.out.symm,jN.out⟩
end
section
open Go.RowKit Go.Shelf
attribute [local go_sem] Oper.semAt_some
theorem VM(s:ByteArray)(w:World) :
 Calls prog 154 #[.string s] w λe w'=>e = .returned (.func (.func 217) #[] #[.pointer (some ⟨w.heap.size,0,none⟩)])/\w'=w.alloc (.cells #[.string s] 9):=by
 go_enter func154,ntmps154;go_wp2_with fail;go_ret;exact⟨rfl,rfl⟩
theorem WY:∀ args w,(callFunc 217 args).run prog w = .ok (.enter 217 args) w:=enters_of func217 (by kernel_rfl) rfl
def qL(s cur:List UInt8)(pre rest:List (List UInt8)):Prop:=Np.ao cur=true/\pre++rest=Np.ups s/\∃ k,rest=Np.nR k cur/\(Np.bY cur).length<=k
theorem qL.start{s:List UInt8}(h:Np.ao s=true):qL s s [] (Np.ups s):=⟨h,rfl,_,rfl,bQ _⟩
theorem qL.step{s cur:List UInt8}{pre rest:List (List UInt8)}(h:qL s cur pre rest)(hr:cur≠[46]):∃ r,rest=Np.jF cur::r/\qL s (Np.jF cur) (pre ++ [Np.jF cur]) r:=by
 obtain⟨hv,he,k,rfl,hk⟩:=h;obtain⟨xn,x,hx⟩:=Np.Ih hv hr;rw[hx] at hk
 cases k with
 | zero=>simp at hk
 | succ k=>
  have e:Np.nR (k+1) cur=Np.jF cur::Np.nR k (Np.jF cur):=by rw[Np.nR,Qc hr]
  exact⟨Np.nR k (Np.jF cur),e,xn,by rw[<-he,e,List.append_assoc];rfl,k,rfl,by simpa using hk⟩
theorem qL.ends{s:List UInt8}{pre rest:List (List UInt8)}(h:qL s [46] pre rest):pre=Np.ups s:=by
 obtain⟨hv,he,k,rfl,hk⟩:=h
 have:Np.nR k [46] = []:=by cases k<;>simp[Np.nR]
 rw[this,List.append_nil] at he;exact he
theorem VP{s x:List UInt8}(h:Np.ao s=true)(hx:x∈Np.ups s):Np.ao x=true:=by
 unfold Np.ups at hx;generalize (Np.bY s).length=k at hx
 induction k generalizing s with
 | zero=>simp[Np.nR] at hx
 | succ k ih=>
  by_cases hr:s = [46]
  ·rw[Np.nR,QbQ hr] at hx;simp at hx
  ·rw[Np.nR,Qc hr] at hx;have hv:=(Np.Ih h hr).1;rcases List.mem_cons.1 hx with rfl | hx
   ·exact hv
   ·exact ih hv hx
def AO(bs:Nat)(w:World):Nat:=match w.cell? ⟨bs,0,none⟩ with | some (.string s)=>(Np.bY s.data.toList).length | _=>0
def VJ(s:List UInt8)(bs:Nat)(J:List (List UInt8)->(Nat->Prop)->World->Prop)(S:Nat->Prop)(W:World)(wr:World):Prop:=
 ∃ (cur:ByteArray) (pre rest:List (List UInt8)) (S1:Nat->Prop),qL s cur.data.toList pre rest/\cur.size<=60/\wr.heap[bs]?=some (.cells [Value.string cur].toArray 9 (0,0))/\J pre S1 wr/\(∀ i,S1 i->i<wr.heap.size)/\(∀ i,S1 i->S i\/W.heap.size<=i)/\W.heap.size<=wr.heap.size
theorem VO(s:ByteArray)(hv:Np.ao s.data.toList=true)(bs:Nat)(w:World)(pO:w.heap[bs]?=some (.cells [Value.string s].toArray 9 (0,0))) :
 Fg prog 217 (λy=>#[y,.pointer (some ⟨bs,0,none⟩)]) (λx:List UInt8=>#[bl x]) (Np.ups s.data.toList) (λ_=>False) (λk=>k=bs) w:=by
 intro l J Jx S W hW CH hJ F0 hY hS F7 hS' h0;have cF:=((CH.2 bs rfl).2).trans pO;have iA:bs<W.heap.size:=(eQ.1 cF).1;have Yx:¬ S bs:=λh=>F7 bs h rfl;have HV:=jq hv;have s6:=nL hv;clear hW CH pO hv;refine callsIn_of_wp func217 rfl trivial ?_ rfl;simp only[ntmps217,List.size_toArray,List.length_cons,List.length_nil,Nat.reduceAdd,Nat.reduceSub,Array.replicate_succ,Array.replicate_zero,List.push_toArray,List.append_toArray,List.nil_append,List.cons_append];gi_wp2_with fail;gi_loopw [] (λwr=>VJ s.data.toList bs J S W wr) (λwr=>AO bs wr)
 case atStart=>
  exact⟨s,[],_,S,qL.start HV.out,s6,cF,h0,hS',λi e=>.inl e,bQ _⟩
 case round=>
  obtain⟨cur,pre,rest,S1,xm,YP,sO,qU,oy,aP,OW⟩:=hrel;have vV:=jq xm;have ef:=jq sO;have c0:=ae [_] sO 0 _ rfl;have NV:bs<wr.heap.size:=by omega
  have Nx:¬ S1 bs:=λh=>by rcases aP _ h with h | h;exact Yx h;omega
  clear xm sO;by_cases hr:cur.data.toList = [46]
  ·have i7:(cur.toList == [46])=true:=by rw[dQ,hr];rfl
   have HE:Hid (pre=Np.ups s.data.toList):=jq (by have:=vV.out;rw[hr] at this;exact this.ends);clear hr;gi_wp2_with fail;go_end0;exact⟨⟨_,rfl⟩,.inl ⟨S1,by rw[<-HE.out];exact qU,aP⟩⟩
  ·have i7:(cur.toList == [46])=false:=by rw[dQ];simpa using hr
   have HR:=jq hr;clear hr;gi_wp2_with fail;refine⟨trivial,rfl,(callsIn_wide.2 (apK cur (by omega) vV.out.1 HR.out wr)).mono ?_⟩;rintro e w2 ⟨p,rfl,hp,_,ag⟩;obtain⟨r,ey,aq⟩:=vV.out.step HR.out;have cr:=ag.size;have zf:=hJ _ _ _ _ qU (ItO.of_below ag);have bw:pre ++ [p.data.toList] <+: Np.ups s.data.toList:=by
    rw[<-vV.out.2.1,ey,hp];exact⟨r,by simp⟩
   obtain⟨fn,tmps,assign,body,hy,hR⟩:=hY pre p.data.toList S1 w2 bw zf (λk e=>by have:=oy k e;omega) (by omega);have na:Sem.run prog (Instr.yield l #[.string p]) w2 = .ok (.round l fn tmps assign body) w2:=hy;have EZ:=jq aq;have pw:=jq bw;have ax:=jq ag;have NY:=(ag.block bs NV).trans ef.out;have RF:=jq NY;have HP:=jq hp;have p60:p.size<=60:=nL (by rw[hp];exact aq.1);have S7:Hid ((Np.bY p.data.toList).length<(Np.bY cur.data.toList).length):=jq (by rw[hp];exact Np.apX vV.out.1 HR.out);have HZ:Hid (AO bs wr=(Np.bY cur.data.toList).length):=jq (by unfold AO;rw[c0]);clear hy aq bw ag zf NY hp ey c0;gi_wp2_with fail;refine⟨rfl,hR.mono ?_⟩;rintro e W3 ⟨S3,aZ,ez,gr,(⟨rfl,iy⟩ | ⟨rfl,iz⟩)⟩
   ·have nJ:=aZ.size;have CN:=(aZ.keep bs (by omega) Nx).trans RF.out;have Yu:¬ S3 bs:=λh=>by rcases ez _ h with h | h;exact Nx h;omega
    have ai:bs<W3.heap.size:=by omega
    have d0:=ae [_] CN 0 _ rfl;have f0:W3.frozen? ⟨bs,0,none⟩=false:=by simp[World.frozen?,CN]
    have RG:=jq CN;have FZ:=hJ _ _ _ _ iy (Pr (p:=⟨bs,0,none⟩) (.string p) rfl Yu);have pA:Hid ((W3.setCell ⟨bs,0,none⟩ (.string p)).heap[bs]?=some (.cells [Value.string p].toArray 9 (0,0))):=jq (by simp[World.setCell,Array.getElem?_modify,RG.out]);clear CN;gi_wp2_with fail;go_roundw
    case rel=>
     refine⟨p,pre ++ [p.data.toList],r,S3,by rw[HP.out];exact EZ.out,p60,pA.out,FZ,λi h=>by simpa [World.setCell] using gr i h,λi h=>?_,by simp[World.setCell];omega⟩;rcases ez i h with h | h
     ·exact aP i h
     ·right;omega
    case measure=>
     have h1:AO bs (W3.setCell ⟨bs,0,none⟩ (.string p))=(Np.bY p.data.toList).length:=by unfold AO;rw[ae [_] pA.out 0 _ rfl]
     rw[h1,HZ.out];exact S7.out
   ·gi_wp2_with fail;refine bodyPost_ret (results_none rfl _ _ _) rfl ?_;refine⟨⟨_,rfl⟩,.inr ⟨_,S3,pw.out,iz,λi h=>?_⟩⟩;rcases ez i h with h | h
    ·exact aP i h
    ·right;omega
end
section
open Go.RowKit Go.Shelf
attribute [local go_sem] Oper.semAt_some
noncomputable def Np.qo(known:List Np.Signed)(n:List UInt8)(t:Int)(a:List UInt8):Option (List Np.Signed):=
 (Np.eu known (Np.dj a) t).bind λs=>(known.find? λp=>Np.aE p == Np.aE s&&Np.nN p.set (Np.aE s) n a).map λp=>[s,p]
def WlI(known:List Np.Signed)(n:List UInt8)(t:Int)(w4:World)(Rc:Nat)(pre:List (List UInt8))(S:Nat->Prop)(W:World):Prop:=
 (∀ a∈pre,Np.qo known n t a=none)/\S Rc/\W.heap[Rc]?=some (.cells [Value.slice none 0 0].toArray 22 (0,0))/\Below Rc w4 W
def WlX(known:List Np.Signed)(n:List UInt8)(t:Int)(w4:World)(Rc B:Nat)(c:Code)(_:List (List UInt8))(S:Nat->Prop)(W:World):Prop:=
 c = .ret/\S Rc/\Below Rc w4 W/\∃ (R:Nat) (e1 e2:List Value) (s p:Np.Signed),Np.rH known n t = [s,p]/\S R/\Rc<R/\R<W.heap.size/\
   W.heap[Rc]?=some (.cells [Value.slice (some ⟨R,0,none⟩) 2 2].toArray 22 (0,0))/\W.heap[R]?=some (.cells (e1++e2).toArray 44 (0,0))/\aB W B e1 s/\aB W B e2 p
theorem DB{Rc B:Nat}{O S:Nat->Prop}{W W':World}(h:ItO B O S W W')(hB:Rc<=B)(hO:∀ k,O k->Rc<k)(hz:Rc<=W.heap.size):Below Rc W W':=
 ⟨h.os,h.tape,h.output,h.size,λk hk=>h.keep k (by omega) (.inl ⟨by omega,λe=>by have:=hO k e;omega⟩)⟩
theorem QR(known:List Np.Signed)(n:List UInt8)(t:Int)(w4:World)(Rc B:Nat)(O:Nat->Prop)(hB:Rc<=B)(hO:∀ k,O k->Rc<k):jS B O (WlI known n t w4 Rc):=by
 rintro pre S W W' ⟨h1,h2,h3,h4⟩ aq;have af:=(eQ.1 h3).1;exact⟨h1,h2,(aq.keep Rc af (.inr h2)).trans h3,h4.trans (DB aq hB hO (by omega))⟩
theorem WlI.next{known:List Np.Signed}{n:List UInt8}{t:Int}{w4:World}{Rc:Nat}{pre:List (List UInt8)}{S:Nat->Prop}{W W':World}(h:WlI known n t w4 Rc pre S W)(hb:Below W.heap.size W W'){x:List UInt8}(hx:Np.qo known n t x=none):WlI known n t w4 Rc (pre ++ [x]) S W':=by
 obtain⟨h1,h2,h3,h4⟩:=h;have af:=(eQ.1 h3).1;refine⟨λa ha=>?_,h2,(hb.block Rc af).trans h3,h4.trans (hb.aSZ)⟩;rcases List.mem_append.1 ha with ha | ha
 ·exact h1 a ha
 ·rw[List.mem_singleton.1 ha];exact hx
theorem FB{α β:Type}{f:α->Option β}{pre l:List α}{x:α}{y:β}(h:pre ++ [x] <+: l)(h1:∀ a∈pre,f a=none)(h2:f x=some y):l.findSome? f=some y:=by
 obtain⟨r,rfl⟩:=h;rw[List.append_assoc,List.findSome?_append,List.findSome?_eq_none_iff.2 h1];simp[h2]
theorem MB{α β:Type}{f:α->Option β}{l:List α}(h1:∀ a∈l,f a=none):l.findSome? f=none:=List.findSome?_eq_none_iff.2 h1
theorem aNK(known:List Np.Signed)(n:List UInt8)(t:Int)(w4:World)(Rc B0 B:Nat)(O:Nat->Prop)(hB:Rc<=B)(ix:B0<=Rc)(hO:∀ k,O k->Rc<k)(c:Code):jS B O (WlX known n t w4 Rc B0 c):=by
 rintro pre S W W' ⟨h0,h1,h2,R,e1,e2,s,p,h3,h4,h5,h6,h7,h8,h9,XZ⟩ aq;exact⟨h0,h1,h2.trans (DB aq hB hO (by omega)),R,e1,e2,s,p,h3,h4,h5,by have:=aq.size;omega,(aq.keep Rc (by omega) (.inr h1)).trans h7,(aq.keep R h6 (.inr h4)).trans h8,az _ _ _ _ _ h9 ((DB aq hB hO (by omega)).mono ix),az _ _ _ _ _ XZ ((DB aq hB hO (by omega)).mono ix)⟩
def lG(X r:Nat)(x wd:List UInt8)(t:Int)(g:Bool)(v e11:Value)(i:Nat):Value:=[.pointer (some ⟨X,1,none⟩),.map (some r),bl x,bl wd,.pointer (some ⟨X+1,1,none⟩),.int .i64 t,.agg #[bl wd,.int .i64 t],.tuple #[v,.bool g],.tuple #[v,.bool g],v,.bool g,e11,undef,.bool g].getD i undef
def ko(i:Nat):Nat:=[15,16,17,18,19,20,21,22,14,23,24,6,8,7].getD i 0
def aLZ:List Nat:=[0,1,2,3,4,5,6,7,8,9,10,11].map ko
theorem IW:∀ i∈[0,1,2,3,4,5,6,7,8,9,10,11],ko i<53/\ko i∈aLZ:=by decide
theorem IX:∀ i∈[0,1,2,3,4,5,6,7,8,9,10,11],∀ j∈[0,1,2,3,4,5,6,7,8,9,10,11],j≠i->ko i≠ko j:=by decide
def aLJ:List Nat:=[0,1,2,3,4,5,6,7,8,9,10,11,12].map ko
theorem QH:∀ i∈[0,1,2,3,4,5,6,7,8,9,10,11,12],ko i<53/\ko i∈aLJ:=by decide
theorem aLQ:∀ i∈[0,1,2,3,4,5,6,7,8,9,10,11,12],∀ j∈[0,1,2,3,4,5,6,7,8,9,10,11,12],j≠i->ko i≠ko j:=by decide
theorem MG{w9:World}{E:Nat}{ty:TypeId}(v0 v1 v2 v3 v4 z0 z1 z2 z3 z4:Value)(h:w9.heap[E]?=some (.cells #[z0,z1,z2,z3,z4] ty (0,0))) :
 (((((w9.setCell ⟨E,0,none⟩ v0).setCell ⟨E,1,none⟩ v1).setCell ⟨E,2,none⟩ v2).setCell ⟨E,3,none⟩ v3).setCell ⟨E,4,none⟩ v4).heap[E]?=some (.cells [v0,v1,v2,v3,v4].toArray ty (0,0)):=by
 simp[World.setCell,Array.getElem?_modify,h]
theorem AK(s:ByteArray)(ty life:Int)(v u:Value)(x:Np.Signed)(z:ByteArray)(hz:z.data.toList=Np.aE x)(w:World)(hg:SlR dw 6 w w.heap.size u x.sigs) :
 Calls prog 89 #[.agg #[.string s,.int .i64 ty,.int .i64 life,v,u]] w (aUQ w.heap.size w (.string z)):=by
 refine (Qp s ty life v u x.sigs x.set w hg).mono ?_;rintro e w' ⟨c,rfl,⟨hc,_⟩,hb⟩;exact⟨by congr 2;exact mF (by rw[hc,hz]),hb⟩
theorem Iz{w:World}{B:Nat}{u:Value}{x:Np.Signed}(hg:SlR dw 6 w B u x.sigs):(Np.aE x).length<=140737488355328:=by
 obtain⟨A,c,_,_,_,he⟩:=hg;unfold Np.aE
 cases hs:x.sigs with
 | nil=>simp
 | cons g r=>
  obtain⟨b,o,e,_,_,_,_,z,hz,dV,_⟩:=he 0 g (by rw[hs];rfl);dsimp only;rw[<-hz,be];exact dV
def qK(B:Nat)(W:World)(_:Nat)(e:List Value)(x:Np.Signed):Prop:=aB W B e x
def Je(B:Nat)(l:List Np.Signed)(w:World)(e:Ending)(w':World):Prop:=∃ A n c,e = .returned (.slice A n c)/\SlR (qK B) 5 w' w'.heap.size (.slice A n c) l/\Below w.heap.size w w'/\∀ b o,A=some ⟨b,o,none⟩->w.heap.size<=b
theorem aBY{w:World}{R B:Nat}{e1 e2:List Value}{s p:Np.Signed}{ty:TypeId}(h:w.heap[R]?=some (.cells (e1++e2).toArray ty (0,0)))(h1:aB w B e1 s)(h2:aB w B e2 p)(_:B<=R)(hR:R<w.heap.size):SlR (qK B) 5 w w.heap.size (.slice (some ⟨R,0,none⟩) 2 2) [s,p]:=by
 have l1:e1.length=5:=by obtain⟨_,_,_,_,_,_,_,rfl⟩:=h1;rfl
 have l2:e2.length=5:=by obtain⟨_,_,_,_,_,_,_,rfl⟩:=h2;rfl
 refine⟨some ⟨R,0,none⟩,2,rfl,by simp,by simp,λi x hx=>?_⟩
 match i,hx with
 | 0,hx=>
  cases hx
  refine⟨R,0,e1,rfl,hR,l1,λj u hj=>?_,h1⟩
  have:=ae (e1++e2) h j u (by rw[List.getElem?_append_left (by have:=(cQ.1 hj).1;omega)];exact hj)
  simpa using this
 | 1,hx=>
  cases hx
  refine⟨R,0,e2,rfl,hR,l2,λj u hj=>?_,h2⟩
  have:=ae (e1++e2) h (5+j) u (by rw[oQ (by omega),l1];simpa using hj)
  simpa using this
theorem I0(x:List UInt8)(hs:x.length<=60)(w:World):Calls prog 155 #[bl x] w λe w'=>e = .returned (bl (Np.dj x))/\w'=w:=by
 refine (aNQ ⟨x.toArray⟩ (by show x.toArray.size<=60;simpa using hs) w).mono ?_;rintro e w' ⟨c,rfl,⟨hc,_⟩,rfl⟩;refine⟨?_,rfl⟩;show Ending.returned (Value.string c) = .returned (Value.string _);congr 2;exact mF (by rw[hc])
theorem aNZ(kv adv:Value)(known:List Np.Signed)(gG:known.length<=1000)(kW:∀ x∈known,Np.bo x.set=true)(r:Nat)(kvs:List ((List UInt8×Int)×Value))(an n:ByteArray)(cE:Np.ao n.data.toList=true)(aty al at' dr t:Int)(w:World)(B:Nat)(hB:B<=w.heap.size)(hR:bL w w.heap.size)(hk:SlR aB 5 w B kv known)(ha:∃ A n c,adv = .slice A n c)(hr:r<w.heap.size)(hm:gk r kvs w)(hc:jd known w B kvs) :
 Calls prog 92 #[qf kv r an aty al adv at' dr,.agg #[.string n,.int .i64 t]] w (Je B (Np.rH known n.data.toList t) w):=by
 have HK:=jq hk;have dK:=jq hR;have lR:=jq kW;have eC:=jq cE;have xa:=nL cE;obtain⟨A,N,C,rfl,hN,_,_⟩:=aM hk;have HN:=jq hN;have Cz:N<=1000:=by omega
 obtain⟨aA,aN,aC,rfl⟩:=ha;unfold qf;obtain⟨X,hX⟩:=aRZ w.heap.size;have uj:B<=X:=by omega
 obtain⟨w1,ah⟩:=aRZ (w.alloc (.cells #[.slice A N C,.map (some r),.string an,.int .i64 aty,.int .i64 al,.slice aA aN aC,.int .i64 at',.int .i64 dr] 80));obtain⟨w2,aX⟩:=aRZ (w1.alloc (.cells #[.string n,.int .i64 t] 27));obtain⟨w3,ci⟩:=aRZ (w2.alloc (.cells #[.slice none 0 0] 22));have z1:w1.heap.size=X+1:=by rw[<-ah,<-hX];simp
 have z2:w2.heap.size=X+1+1:=by rw[<-aX];simp[z1]
 have z3:w3.heap.size=X+1+1+1:=by rw[<-ci];simp[z2]
 have ay:Below X w w1:=by rw[<-ah,<-hX];exact aj _ _
 have ag:Below w1.heap.size w1 w2:=by rw[<-aX];exact aj _ _
 have ai:Below w2.heap.size w2 w3:=by rw[<-ci];exact aj _ _
 have am:=jq (ay.trans ((ag.aSZ).trans (ai.aSZ)));have p1:=bD (r:=[.slice A N C,.map (some r),.string an,.int .i64 aty,.int .i64 al,.slice aA aN aC,.int .i64 at',.int .i64 dr]) rfl ah;have p2:=bD (r:=[.string n,.int .i64 t]) rfl aX;rw[hX] at p1;rw[z1] at p2;have uo:=heap_alloc_new w2 (.cells #[.slice none 0 0] 22);rw[ci,z2] at uo;have HJ:Hid (∀ (wz:World),Below (X+1+1) w3 wz->∀ (j:Nat) u,[Value.slice A N C,.map (some r),.string an,.int .i64 aty,.int .i64 al,.slice aA aN aC,.int .i64 at',.int .i64 dr][j]?=some u->wz.cell? ⟨X,j,none⟩=some u):=jq (λwz hb j u hj=>aQY hb ((cl ai (by omega)).trans ((cl ag (by omega)).trans (p1 j u hj))));have HQ:Hid (∀ (wz:World),Below (X+1+1) w3 wz->∀ (j:Nat) u,[Value.string n,.int .i64 t][j]?=some u->wz.cell? ⟨X+1,j,none⟩=some u):=jq (λwz hb j u hj=>aQY hb ((cl ai (by omega)).trans (p2 j u hj)));have g9:=jq (hc.keep (am.out.mono uj));have EG:=jq (hm.keep am.out (by omega));have gN:=jq uo;have hrX:r<X:=by omega
 have HX:=jq hX;have q0:=HQ.out w3 (vQ _ _) 0 _ rfl;obtain⟨RES,co⟩:=aRZ (Np.rH known n.data.toList t);rw[co];have aO:=jq co;clear co uo p1 p2 ay ag ai hm hc hk hR kW cE hN hr;refine (callsIn_wide (n:=0)).1 ?_;refine callsIn_of_wp_marks func92 rfl trivial ?_ rfl;simp only[ntmps92,List.size_toArray,List.length_cons,List.length_nil,Nat.reduceAdd,Nat.reduceSub,Array.replicate_succ,Array.replicate_zero,List.push_toArray,List.append_toArray,List.nil_append,List.cons_append];gi_wp2_with fail;clear ah aX ci;refine⟨trivial,rfl,?_⟩;refine (callsIn_wide.2 (VM n w3)).mono ?_;rintro e w4 ⟨rfl,dD⟩;have av:Below w3.heap.size w3 w4:=by rw[dD];exact aj _ _
 have z4:w4.heap.size=X+4:=by rw[dD];simp[z3]
 have kf:w4.heap[X+1+1+1]?=some (.cells [Value.string n].toArray 9 (0,0)):=by
  rw[dD,<-z3];exact heap_alloc_new _ _
 rw[z3];have EA:=jq (VO n eC.out (X+1+1+1) w4 kf);have pl:=jq av;have Ns:=(av.block (X+1+1) (by omega)).trans gN.out;have gi:=jq Ns;clear dD av kf Ns q0;gi_wp2_with fail;refine aOX (Dr:=λ_=>False) (O:=λk=>k=X+1+1+1) (w0:=w4) (first:=#[]) (captured:=#[.pointer (some ⟨X+1+1+1,0,none⟩)]) (gf:=217) rfl WY (mk:=λy=>#[y,.pointer (some ⟨X+1+1+1,0,none⟩)]) (λ_=>rfl)
  EA.out (dY.refl λk e=>e.elim) (dY.refl λk e=>by rw[z4,e];omega) (λ_=>rfl) (WlI known n.data.toList t w4 (X+1+1)) (WlX known n.data.toList t w4 (X+1+1) B)
  (QR _ _ _ _ _ _ _ (by omega) (λk e=>by rw[e];omega)) (λc=>aNK _ _ _ _ _ _ _ _ (by omega) (by omega) (λk e=>by rw[e];omega) c)
  (λk=>k=X+1+1) (λk h1 h2=>h2) (λk h1 h2=>by omega) (by intro k h;omega)
  ⟨λa h=>by simp at h,rfl,gi.out,vQ _ _⟩ ?round ?done ?stop
 case stop=>
  rintro D c pre S W hD df aP gU ⟨rfl,F9,iA,R,e1,e2,s,p,O5,Yw,aWQ,Yo,nF,kZ,cG,i7⟩ hK;have Yb:D≠R:=λe=>df (e ▸ Yw);have Cv:D≠X+1+1:=λe=>df (e ▸ F9);have lO:=jq hK;have Ah:(W.putObj D (.deferred none)).heap[X+1+1]?=some (.cells [Value.slice (some ⟨R,0,none⟩) 2 2].toArray 22 (0,0)):=(zQ (λe=>Cv e.symm)).trans nF;have rc0:=ae [_] Ah 0 _ rfl;have mJ:Hid ((W.putObj D (.deferred none)).heap[R]?=some (.cells (e1++e2).toArray 44 (0,0))):=jq ((zQ (λe=>Yb e.symm)).trans kZ);have tD:Hid (Below X w (W.putObj D (.deferred none))):=jq (ib (am.out.trans ((pl.out.aSZ).trans (iA.aSZ))) (by omega) _);have rZ:Hid (RES = [s,p]):=jq (by rw[<-aO.out];exact O5);have GX:Below B W (W.putObj D (.deferred none)):=ib (vQ _ _) (by omega) _;have iN:=jq (az _ _ _ _ _ cG GX);have d8:=jq (az _ _ _ _ _ i7 GX);have ND:X<=R:=by omega
  have E1:Hid (R<(W.putObj D (.deferred none)).heap.size):=jq (by simpa using Yo);clear hK nF Ah kZ iA O5 cG i7 GX;gi_wp2_with fail;refine iw lO.out (v:=.slice (some ⟨R,0,none⟩) 2 2) (by simp[results,results92,go_sem,rc0]) ?_;rw[rZ.out];exact⟨_,_,_,rfl,aBY mJ.out iN.out d8.out (yQ uj ND) E1.out,by rw[HX.out];exact tD.out,λb o h=>by cases h;rw[HX.out];exact ND⟩
 case done=>
  rintro D S W hD df aP ⟨bX,F9,nF,iA⟩ hK;have Cv:D≠X+1+1:=λe=>df (e ▸ F9);have YD:X+1+1<W.heap.size:=(eQ.1 nF).1;have lO:=jq (show (W.setCell ⟨X+1+1,0,none⟩ (.slice none 0 0)).heap[D]?=some (.deferred (some [])) from (wQ _ _ _ _ (λe=>Cv e)).trans hK);have rc0:=ae [_] nF 0 _ rfl;have rcf:W.frozen? ⟨X+1+1,0,none⟩=false:=by simp[World.frozen?,nF]
  have rZ:Hid (RES = []):=jq (by
   rw[<-aO.out];show ((Np.ups n.data.toList).findSome? (Np.qo known n.data.toList t)).getD []=_;rw[MB bX];rfl)
  have tD:Hid (Below X w ((W.setCell ⟨X+1+1,0,none⟩ (.slice none 0 0)).putObj D (.deferred none))):=jq (ib ((am.out.trans ((pl.out.aSZ).trans (iA.aSZ))).blSe (p:=⟨X+1+1,0,none⟩) _) (by omega) _);have Ah:((W.setCell ⟨X+1+1,0,none⟩ (.slice none 0 0)).putObj D (.deferred none)).heap[X+1+1]?=some (.cells [Value.slice none 0 0].toArray 22 (0,0)):=(zQ (λe=>Cv e.symm)).trans (by simp[World.setCell,Array.getElem?_modify,nF]);have rc1:=ae [_] Ah 0 _ rfl;clear hK nF Ah iA bX;gi_wp2_with fail;refine iw lO.out (v:=.slice none 0 0) (by simp only[results,results92];simp[go_sem,rc1]) ?_;rw[rZ.out];exact⟨_,_,_,rfl,g8 _ _,by rw[HX.out];exact tD.out,λb o h=>by cases h⟩
 case round=>
  rintro l0 pre x S W bw hI dz;obtain⟨mO,ze,ul,wE⟩:=hI;have YD:X+1+1<W.heap.size:=(eQ.1 ul).1;have HI:=jq (show WlI known n.data.toList t w4 (X+1+1) pre S W from ⟨mO,ze,ul,wE⟩);have pw:=jq bw;clear mO ze ul wE;gi_wp2;refine⟨S,RdStep.refl S W,λk e=>.inl e,dz,?_⟩;intro l W₂ aq;obtain⟨mO,ze,ul,wE⟩:=QR known n.data.toList t w4 (X+1+1) w4.heap.size _ (by omega) (λk e=>by rw[e];omega) pre S W W₂ HI.out aq;have jL:=jq (show WlI known n.data.toList t w4 (X+1+1) pre S W₂ from ⟨mO,ze,ul,wE⟩);have vT:Hid (∀ k,S k->k<W₂.heap.size):=jq (λk e=>by have:=dz k e;have:=aq.size;omega);have YC:X+1+1<W₂.heap.size:=(eQ.1 ul).1;have MV:Below (X+1+1) w3 W₂:=(pl.out.aSZ).trans wE;have xm:=(VP eC.out (pw.out.subset (List.mem_append_right _ (List.mem_singleton.2 rfl))));have Hl:=Np.km xm;have vV:=jq xm;have ZA:∃ (ys:ByteArray) (ya yb:Int) (ydA:Option Addr) (ydn ydc:Nat) (ygA:Option Addr) (ygn ygc:Nat) (g:Bool),(kvs.lookup (Np.dj x,t)).getD (.agg #[.string ⟨#[]⟩,.int .i64 0,.int .i64 0,.slice none 0 0,.slice none 0 0]) = .agg #[.string ys,.int .i64 ya,.int .i64 yb,.slice ydA ydn ydc,.slice ygA ygn ygc]/\(kvs.lookup (Np.dj x,t)).isSome=g/\
   ((g=false/\Np.eu known (Np.dj x) t=none)\/(g=true/\∃ y,Np.eu known (Np.dj x) t=some y/\aB w3 B [.string ys,.int .i64 ya,.int .i64 yb,.slice ydA ydn ydc,.slice ygA ygn ygc] y)):=by
   have js:=g9.out (Np.dj x) t
   cases eV:Np.eu known (Np.dj x) t with
   | none=>
    rw[js.1 eV];exact⟨_,_,_,_,_,_,_,_,_,false,rfl,rfl,.inl ⟨rfl,rfl⟩⟩
   | some y=>
    obtain⟨e',cp,cP⟩:=js.2 y eV;obtain⟨ys,ydA,ydn,ydc,ygA,ygn,ygc,rfl,_,_,_,_,_,_⟩:=gZ cP;rw[cp];exact⟨_,_,_,_,_,_,_,_,_,true,rfl,rfl,.inr ⟨rfl,y,rfl,cP⟩⟩
  obtain⟨ys,ya,yb,ydA,ydn,ydc,ygA,ygn,ygc,g,cR,ew,gp⟩:=ZA;have yc:=jq gp;obtain⟨w8,dU⟩:=aRZ W₂.drew;have y9:Below (X+1+1) w3 w8:=by rw[<-dU];exact MV.drew
  have nY:=jq (show Below W₂.heap.size W₂ w8 by rw[<-dU];exact (vQ _ _).drew);have cM:Hid (∀ wz,Below (X+1+1) w3 wz->(Instr.lookup 77 (.map (some r)) (.agg #[bl (Np.dj x),.int .i64 t]) true).run prog wz = .ok (.tuple #[.agg #[.string ys,.int .i64 ya,.int .i64 yb,.slice ydA ydn ydc,.slice ygA ygn ygc],.bool g]) wz):=jq (λwz hb=>by
   have fi:=DS wz 77 44 underlying77 r kvs (EG.out.keep hb (by omega)) (Np.dj x,t) _ (zeroValue44 wz);rw[cR,ew] at fi;exact fi)
  have Rh:=jq y9;obtain⟨v,hv⟩:=aRZ (Value.agg #[.string ys,.int .i64 ya,.int .i64 yb,.slice ydA ydn ydc,.slice ygA ygn ygc]);rw[hv] at cM;have HV:=jq hv;have j1:=HJ.out w8 y9 1 _ rfl;have q1:=HQ.out w8 y9 1 _ rfl;have lk:=cM.out w8 y9;clear xm cR ew gp MV y9 mO ze ul wE hv;gi_wp2_with fail;refine I2 λa0 d9=>?_;have qr:=jq d9;have jM:=jq (show a0.eval (.tmp 2) = .pointer (some ⟨X,0,none⟩) by rw[d9];rfl);have eo:=jq (show a0.eval (.tmp 3) = .pointer (some ⟨X+1,0,none⟩) by rw[d9];rfl);have qF:=jq (show a0.eval (.tmp 5)=bl x by rw[d9];rfl);have TT:=jq (show a0.eval (.tmp 8)=undef by rw[d9];rfl);have HM:=jq (show a0.tmps.size=53 by rw[d9];rfl);clear d9;refine I4 (by kernel_rfl) (by kernel_rfl) (by rintro⟨_,_,h⟩;exact h) ?_
  try rw[show ({ heap:=W₂.heap,tape:=W₂.tape,drawn:=W₂.drawn+1,os:=W₂.os,output:=W₂.output } : World)=w8 from dU]
  try rw[dU]
  refine f9 11 (D:=[0,1,2,3,4,5,6,7,8,9,10]) (val:=lG X r x (Np.dj x) t g v undef) IW IX (zI HM.out) (by kernel_rfl) ?_ ?_
  ·intro i aW bE o ho a' hb aV;have k2':=aTK hb jM.out;have k3':=aTK hb eo.out;have k5':=aTK hb qF.out;simp[Act.eval] at k2' k3' k5'
   repeat' (rcases aW with _ | ⟨_,aW⟩)
   all_goals first
    | (exfalso;simp at bE;done)
    | (cases ho
       try simp[Act.eval,Region.binds,lG,ko] at aV
       refine eZ (by simp[Region.wanted]) ?_
       first
       | (simp[Oper.quietAt,Oper.quietUpon,execOp,go_sem,lG,k2',k3',k5',j1,q1,lk,aV];done)
       | (simp[Oper.quietAt,Oper.quietUpon,go_sem,lG,aV];exact I0 x Hl w8))
  ·intro f listed a' hH hr hv;simp only[wpOp];simp[Region.wanted];refine .inl ?_;simp[Oper.wp,execOp,go_sem];obtain⟨w9,iF⟩:=aRZ (w8.alloc (.cells #[.string ⟨#[]⟩,.int .i64 0,.int .i64 0,.slice none 0 0,.slice none 0 0] 44));rw[iF];have bM:Below w8.heap.size w8 w9:=by rw[<-iF];exact aj _ _
   have l9:w8.heap.size<w9.heap.size:=by rw[<-iF];simp
   have M9:w9.heap[w8.heap.size]?=some (.cells #[.string ⟨#[]⟩,.int .i64 0,.int .i64 0,.slice none 0 0,.slice none 0 0] 44 (0,0)):=by rw[<-iF];exact heap_alloc_new _ _
   have x8:=jq M9;have oN:X+1+1<=w8.heap.size:=by have:=nY.out.size;omega
   have za:Below (X+1+1) w3 w9:=Rh.out.trans (bM.mono oN);have Ri:=jq za;have Rs:=jq bM;replace j1:=HJ.out w9 za 1 _ rfl;replace q1:=HQ.out w9 za 1 _ rfl;replace lk:=cM.out w9 za;clear iF bM M9 za;refine f9 12 (D:=[0,1,2,3,4,5,6,7,8,9,10,11]) (val:=lG X r x (Np.dj x) t g v (.pointer (some ⟨w8.heap.size,0,none⟩))) IW IX (hH.next IW IX hr) (by kernel_rfl) ?_ ?_
   ·intro i aW bE o ho a' hb aV;have k2':=aTK hb jM.out;have k3':=aTK hb eo.out;have k5':=aTK hb qF.out;simp[Act.eval] at k2' k3' k5'
    repeat' (rcases aW with _ | ⟨_,aW⟩)
    all_goals first
     | (exfalso;simp at bE;done)
     | (cases ho
        try simp[Act.eval,Region.binds,lG,ko] at aV
        refine eZ (by simp[Region.wanted]) ?_
        first
        | (simp[Oper.quietAt,Oper.quietUpon,execOp,go_sem,lG,k2',k3',k5',j1,q1,lk,aV];done)
        | (simp[Oper.quietAt,Oper.quietUpon,go_sem,lG,aV];exact I0 x Hl w9))
   ·intro f listed a' hH hr hv;have av9:=hv 9;have av11:=hv 11;simp[Act.eval,lG,ko] at av9 av11;rw[<-HV.out] at av9;have kE:=λj u hj=>ae [_,_,_,_,_] x8.out j u hj;have kE0:=kE 0 _ rfl;have kE1:=kE 1 _ rfl;have kE2:=kE 2 _ rfl;have kE3:=kE 3 _ rfl;have kE4:=kE 4 _ rfl;have fE:∀ i,w9.frozen? ⟨w8.heap.size,i,none⟩=false:=λi=>by simp[World.frozen?,x8.out]
    simp only[wpOp];simp[Region.wanted];refine .inl ?_;simp[Oper.wp,execOp,go_sem,av9,av11,kE0,kE1,kE2,kE3,kE4,fE];obtain⟨w10,ri⟩:=aRZ (((((w9.setCell ⟨w8.heap.size,0,none⟩ (.string ys)).setCell ⟨w8.heap.size,1,none⟩ (.int .i64 ya)).setCell ⟨w8.heap.size,2,none⟩ (.int .i64 yb)).setCell ⟨w8.heap.size,3,none⟩ (.slice ydA ydn ydc)).setCell ⟨w8.heap.size,4,none⟩ (.slice ygA ygn ygc));rw[ri];have FT:w10.heap[w8.heap.size]?=some (.cells [Value.string ys,.int .i64 ya,.int .i64 yb,.slice ydA ydn ydc,.slice ygA ygn ygc].toArray 44 (0,0)):=by rw[<-ri];exact MG _ _ _ _ _ _ _ _ _ _ x8.out
    have gF:Below w8.heap.size w9 w10:=by rw[<-ri];exact FD (vQ _ _) (bQ _) _ _ _ _ _
    have y8:Below (X+1+1) w3 w10:=Ri.out.trans (gF.mono oN);have Ef:=jq y8;have RZ:=jq FT;have tV:=jq (nY.out.trans ((Rs.out.trans (gF.mono (bQ _))).mono nY.out.size));have z10:w8.heap.size<w10.heap.size:=(eQ.1 FT).1;replace j1:=HJ.out w10 y8 1 _ rfl;replace q1:=HQ.out w10 y8 1 _ rfl;replace lk:=cM.out w10 y8;clear kE kE0 kE1 kE2 kE3 kE4 fE ri FT gF y8;refine f9 13 (D:=[0,1,2,3,4,5,6,7,8,9,10,11,12]) (val:=lG X r x (Np.dj x) t g v (.pointer (some ⟨w8.heap.size,0,none⟩))) QH aLQ (hH.skip hr (hv:=TT.out.symm)) (by kernel_rfl) ?_ ?_
    ·intro i aW bE o ho a' hb aV;have k2':=aTK hb jM.out;have k3':=aTK hb eo.out;have k5':=aTK hb qF.out;simp[Act.eval] at k2' k3' k5'
     repeat' (rcases aW with _ | ⟨_,aW⟩)
     all_goals first
      | (exfalso;simp at bE;done)
      | (cases ho
         try simp[Act.eval,Region.binds,lG,ko] at aV
         refine eZ (by simp[Region.wanted]) ?_
         first
         | (simp[Oper.quietAt,Oper.quietUpon,execOp,go_sem,lG,k2',k3',k5',j1,q1,lk,aV];done)
         | (simp[Oper.quietAt,Oper.quietUpon,go_sem,lG,aV];exact I0 x Hl w10))
    ·intro f listed a' hH hr hv;have av10:=hv 10;simp[Act.eval,lG,ko] at av10;simp only[wpOp];simp[Region.wanted];refine .inl ?_;simp[Oper.wp,execOp,go_sem,av10];refine rI hH hr HM.out QH (by kernel_rfl) λfC=>?_;rw[fC,qr.out];simp[nb,Act.put,lG,ko];clear hv hH fC j1 q1 lk;rcases yc.out with ⟨rfl,eV⟩ | ⟨rfl,y,NZ,sJ⟩
     ·have dG:Hid (Np.qo known n.data.toList t x=none):=jq (by unfold Np.qo;rw[eV];rfl);clear eV;gi_wp2_with fail;exact⟨S,RdStep.of_below tV.out,λk e=>.inl e,λk e=>by have:=vT.out k e;have:=tV.out.size;omega,jL.out.next tV.out dG.out⟩
     ·have Bn:=jq NZ;have qE:=jq sJ;have j0:=HJ.out w10 Ef.out 0 _ rfl;have NB:Below X w w10:=am.out.trans (Ef.out.aSZ);have KG:=jq NB;obtain⟨zy,qc⟩:∃ z:ByteArray,z.data.toList=Np.aE y:=⟨⟨(Np.aE y).toArray⟩,by simp⟩;have B4:=jq qc;clear NZ sJ NB qc;gi_wp2_with fail;clear j0;gi_loopw [30] (λi wr=>∃ k:Nat,k<=N/\i = .int .i64 k/\Hid (Below w10.heap.size w10 wr)/\Hid (∀ p∈known.take k,(Np.aE p == Np.aE y&&Np.nN p.set (Np.aE y) n.data.toList x)=false)) (λi _=>N - (intOf i).toNat)
      case atStart=>exact⟨0,jQ _,rfl,jq (vQ _ _),jq (λp hp=>by simp at hp)⟩
      case round=>
       obtain⟨k,hk,rfl,HB,BE⟩:=hrel;obtain⟨ws,rfl⟩:=aRX wr;have Dz:=HB.out.size;have YE:X+1+1<=w10.heap.size:=by omega
       have zt:Below X w ws:=KG.out.trans (HB.out.aSZ);by_cases af:k<N
       ·obtain⟨p,gT⟩:∃ p,known[k]?=some p:=⟨_,aQ (by rw[HN.out];exact af)⟩;obtain⟨b,o,c2,s,dv,sv,hA,dB,_,dq,eX,bZ,cx,e0,e1,e2,e3,e4⟩:=mE (HK.out.keep az (zt.mono uj)) gT;simp only[Value.slice.injEq] at hA;obtain⟨rfl,-,rfl⟩:=hA;obtain⟨dA,dn,dc,rfl,_,_,_⟩:=aM bZ;obtain⟨gA,gn,gc,rfl,_,_,_⟩:=aM cx;have EQ:=jq gT;have HPV:=jq (lR.out p (gQ gT));have tN:Hid (aB ws B [.string s,.int .i64 p.set.type,.int .i64 p.set.life,.slice dA dn dc,.slice gA gn gc] p):=jq ⟨s,_,_,dq,eX,bZ,cx,rfl⟩;have EY:Hid (bO ws B [.string s,.int .i64 p.set.type,.int .i64 p.set.life,.slice dA dn dc] p.set):=jq ⟨s,_,dq,eX,bZ,rfl⟩;have iO:Hid (SlR dw 6 ws B (.slice gA gn gc) p.sigs):=jq cx;have dS:=kNN k;have dp:(k:Int)<(N:Int):=by omega
        obtain⟨w11,jy⟩:=aRZ (ws.alloc (.cells #[.string s,.int .i64 p.set.type,.int .i64 p.set.life,.slice dA dn dc,.slice gA gn gc] 44));have fR:Below ws.heap.size ws w11:=by rw[<-jy];exact aj _ _
        have l11:ws.heap.size<w11.heap.size:=by rw[<-jy];simp
        have dI:=jq fR;have p11:=bD (r:=[.string s,.int .i64 p.set.type,.int .i64 p.set.life,.slice dA dn dc,.slice gA gn gc]) rfl jy;have ni:=jq (HB.out.trans (fR.mono Dz));have l8:w8.heap.size<w11.heap.size:=by omega
        have y11:=(ni.out.block w8.heap.size z10).trans RZ.out;have FK:Below (X+1+1) w3 w11:=Ef.out.trans (ni.out.mono YE);have lX:X+1<w11.heap.size:=by omega
        have Rg:=jq FK;have Vi:Hid (Below X w w11):=aRQ KG ni.out;have Pj:X<=w11.heap.size:=by omega
        have oO:B<=w11.heap.size:=by omega
        have aSK:=jq y11;have p0:=p11 0 _ rfl;have p1:=p11 1 _ rfl;have p2:=p11 2 _ rfl;have p3:=p11 3 _ rfl;have p4:=p11 4 _ rfl;have y0:=ae [_,_,_,_,_] y11 0 _ rfl;have y1:=ae [_,_,_,_,_] y11 1 _ rfl;have y2:=ae [_,_,_,_,_] y11 2 _ rfl;have y3:=ae [_,_,_,_,_] y11 3 _ rfl;have y4:=ae [_,_,_,_,_] y11 4 _ rfl;have q0:=HQ.out w11 FK 0 _ rfl;have wR:∀ (g:bA w11) (p:Addr),p.block<w11.heap.size->g.w.cell? p=w11.cell? p:=λg p h=>g.cell p h;obtain⟨zp,ro⟩:∃ z:ByteArray,z.data.toList=Np.aE p:=⟨⟨(Np.aE p).toArray⟩,by simp⟩;have kG:=jq ro;have JJ:Hid (∀ g:bA w11,Calls prog 89 #[.agg #[.string s,.int .i64 p.set.type,.int .i64 p.set.life,.slice dA dn dc,.slice gA gn gc]] g.w λe w'=>e = .returned (.string zp)/\Below g.w.heap.size g.w w'):=jq (λg=>AK s _ _ _ _ p zp kG.out g.w (((iO.out.keep cK (fR.aSZ)).keep cK (g.below.mono oO)).more da (yQ oO g.below.size)));have Ev:Hid (∀ g:bA w11,Calls prog 89 #[.agg #[.string ys,.int .i64 ya,.int .i64 yb,.slice ydA ydn ydc,.slice ygA ygn ygc]] g.w λe w'=>e = .returned (.string zy)/\Below g.w.heap.size g.w w'):=jq (λg=>by
         obtain⟨s',v',u',h1,h2,h3,h4,he⟩:=qE.out;simp only[List.cons.injEq,Value.string.injEq,Value.int.injEq,true_and,and_true] at he;obtain⟨rfl,rfl,rfl,rfl,rfl⟩:=he;exact AK _ _ _ _ _ y zy B4.out g.w ((h4.keep cK ((Rg.out.aSZ).trans (g.below.mono oO))).more da (yQ oO g.below.size)))
        have Z9:zy.size<=140737488355328:=by
         obtain⟨s',v',u',h1,h2,h3,h4,he⟩:=qE.out;rw[<-be,B4.out];exact Iz h4
        have dJ:Hid (∀ g:bA w11,Calls prog 156 #[.agg #[.string s,.int .i64 p.set.type,.int .i64 p.set.life,.slice dA dn dc],.string zy,.string n,bl x] g.w λe w'=>e = .returned (.bool (Np.nN p.set (Np.aE y) n.data.toList x))/\Below g.w.heap.size g.w w'):=jq (λg=>by
         have h:=aKY p.set _ zy n ⟨x.toArray⟩ Z9 (by omega) g.w ((dK.out.keep (by rw[HX.out];exact Vi.out.trans (g.below.mono Pj))).more (by rw[HX.out];exact yQ Pj g.below.size)) (jG _ _ _ _ _ (eR _ _ _ _ _ EY.out ((fR.aSZ).trans (g.below.mono oO))) (yQ oO g.below.size));rw[B4.out,show ((⟨x.toArray⟩:ByteArray)).data.toList=x by simp] at h;exact h)
        obtain⟨c1,bi⟩:=aRZ (Np.aE p == Np.aE y);have bx:(zp.toList == zy.toList)=c1:=by rw[dQ,dQ,kG.out,B4.out];exact bi
        have cy:=jq bi;obtain⟨r9,uP⟩:=aRZ (Np.nN p.set (Np.aE y) n.data.toList x);rw[uP] at dJ;have bv:=jq uP;have fe:Hid (known.take (k+1)=known.take k ++ [p]):=jq (by
         obtain⟨hl,he⟩:=cQ.1 gT;rw[fQ hl,he])
        clear bi uP ro gT dq bZ cx fR p11 y11 FK zt
        cases c1 with
        | false=>
         gi_wp2_with fail;clear jy e0 e1 e2 e3 e4;gi_wp2_with fail;refine QS (by kernel_rfl) (by rintro⟨_,_,h⟩;exact h) (by kernel_rfl) (by kernel_rfl) ?_
         repeat (go_big_quiet_step (fail))
         go_big_quiet_step ((go_at_call 89;exact Calls.grow_of (JJ.out _)))
         repeat (go_big_quiet_step (fail))
         go_big_quiet_step ((go_at_call 89;exact Calls.grow_of (Ev.out _)))
         repeat (go_big_quiet_step (fail))
         refine wpQuiet_nil ?_;rintro _ ⟨g,rfl⟩;gi_wp2_with fail;go_roundw
         case rel=>exact⟨k+1,by omega,by go_num,jq (ni.out.trans (g.below.mono (by have:=ni.out.size;omega))),jq (λq hq=>by
          rw[fe.out] at hq;rcases List.mem_append.1 hq with hq | hq
          ·exact BE.out q hq
          ·rw[List.mem_singleton.1 hq,cy.out];rfl)⟩
         case measure=>simp[intOf]<;>omega
        | true=>
         gi_wp2_with fail;clear jy e0 e1 e2 e3 e4;gi_wp2_with fail;refine QS (by kernel_rfl) (by rintro⟨_,_,h⟩;exact h) (by kernel_rfl) (by kernel_rfl) ?_
         repeat (go_big_quiet_step (fail))
         go_big_quiet_step ((go_at_call 89;exact Calls.grow_of (JJ.out _)))
         repeat (go_big_quiet_step (fail))
         go_big_quiet_step ((go_at_call 89;exact Calls.grow_of (Ev.out _)))
         repeat (go_big_quiet_step (fail))
         go_big_quiet_step ((go_at_call 89;exact Calls.grow_of (Ev.out _)))
         repeat (go_big_quiet_step (fail))
         go_big_quiet_step ((go_at_call 156;exact Calls.grow_of (dJ.out _)))
         repeat (go_big_quiet_step (fail))
         refine wpQuiet_nil ?_;rintro _ ⟨g,rfl⟩
         cases r9 with
         | false=>
          gi_wp2_with fail;go_roundw
          case rel=>exact⟨k+1,by omega,by go_num,jq (ni.out.trans (g.below.mono (by have:=ni.out.size;omega))),jq (λq hq=>by
           rw[fe.out] at hq;rcases List.mem_append.1 hq with hq | hq
           ·exact BE.out q hq
           ·rw[List.mem_singleton.1 hq,cy.out,bv.out];rfl)⟩
          case measure=>simp[intOf]<;>omega
         | true=>
          obtain⟨Gw,FX⟩:=aRZ g.w;have ml:Below w11.heap.size w11 Gw:=by rw[<-FX];exact g.below
          rw[FX];replace p0:=(ml.cell (p:=⟨ws.heap.size,0,none⟩) l11).trans p0;replace p1:=(ml.cell (p:=⟨ws.heap.size,1,none⟩) l11).trans p1;replace p2:=(ml.cell (p:=⟨ws.heap.size,2,none⟩) l11).trans p2;replace p3:=(ml.cell (p:=⟨ws.heap.size,3,none⟩) l11).trans p3;replace p4:=(ml.cell (p:=⟨ws.heap.size,4,none⟩) l11).trans p4;replace y0:=(ml.cell (p:=⟨w8.heap.size,0,none⟩) l8).trans y0;replace y1:=(ml.cell (p:=⟨w8.heap.size,1,none⟩) l8).trans y1;replace y2:=(ml.cell (p:=⟨w8.heap.size,2,none⟩) l8).trans y2;replace y3:=(ml.cell (p:=⟨w8.heap.size,3,none⟩) l8).trans y3;replace y4:=(ml.cell (p:=⟨w8.heap.size,4,none⟩) l8).trans y4;have qv:Hid (Below W₂.heap.size W₂ Gw):=jq (tV.out.trans ((ni.out.trans (ml.mono ni.out.size)).mono tV.out.size));have a6Y:=qv.out.size;have iK:Hid (Below X ws Gw):=jq ((show Below ws.heap.size ws Gw from dI.out.trans (ml.mono dI.out.size)).aSZ);have rcb:=(qv.out.block (X+1+1) YC).trans jL.out.2.2.1;have rc0:=ae [_] rcb 0 _ rfl;have rcf:Gw.frozen? ⟨X+1+1,0,none⟩=false:=by simp[World.frozen?,rcb]
          have BK:=jq rcb;have lX2:X+1+1<Gw.heap.size:=by omega
          clear wR FX ml rcb q0;gi_wp2_with fail;have iJ:Hid (Below (X+1+1) W₂ ((Gw.setCell ⟨X+1+1,0,none⟩ (.slice (some ⟨Gw.heap.size,0,none⟩) 2 2)).alloc (.cells #[.string ys,.int .i64 ya,.int .i64 yb,.slice ydA ydn ydc,.slice ygA ygn ygc,.string s,.int .i64 p.set.type,.int .i64 p.set.life,.slice dA dn dc,.slice gA gn gc] 44))):=jq (by
           have h1:Below (X+1+1) W₂ Gw:=qv.out.aSZ;have h2:Below (X+1+1) W₂ (Gw.setCell ⟨X+1+1,0,none⟩ (.slice (some ⟨Gw.heap.size,0,none⟩) 2 2)):=h1.setCell (p:=⟨X+1+1,0,none⟩) (bQ _) _;exact h2.alloc (yQ (show X+1+1<=W₂.heap.size by omega) h2.size) _)
          refine⟨λk=>S k\/k=Gw.heap.size,((RdStep.of_below qv.out).setCell (.inl jL.out.2.1) _).alloc _,λk e=>e.imp id (λh=>by omega),λk e=>by
           simp[World.setCell];rcases e with e | e
           ·have:=vT.out k e;omega
           ·omega,rfl,.inl jL.out.2.1,jL.out.2.2.2.trans iJ.out,Gw.heap.size,[.string ys,.int .i64 ya,.int .i64 yb,.slice ydA ydn ydc,.slice ygA ygn ygc],[.string s,.int .i64 p.set.type,.int .i64 p.set.life,.slice dA dn dc,.slice gA gn gc],y,p,?_,.inr rfl,lX2,by simp[World.setCell],?_,?_,?_,?_⟩
          ·obtain⟨hl,he⟩:=cQ.1 EQ.out;have hw:Np.qo known n.data.toList t x=some [y,p]:=by
            unfold Np.qo;rw[Bn.out];show Option.map _ (known.find? _)=_;rw[yW (λp=>Np.aE p == Np.aE y&&Np.nN p.set (Np.aE y) n.data.toList x) known k hl BE.out (by rw[he,cy.out,bv.out];rfl),he];rfl
           show ((Np.ups n.data.toList).findSome? (Np.qo known n.data.toList t)).getD []=_;rw[FB pw.out jL.out.1 hw];rfl
          ·rw[@heap_alloc_old _ _ _ (by simp[World.setCell];omega)];simp[World.setCell,Array.getElem?_modify,BK.out]
          ·have:=heap_alloc_new (Gw.setCell ⟨X+1+1,0,none⟩ (.slice (some ⟨Gw.heap.size,0,none⟩) 2 2)) (.cells #[.string ys,.int .i64 ya,.int .i64 yb,.slice ydA ydn ydc,.slice ygA ygn ygc,.string s,.int .i64 p.set.type,.int .i64 p.set.life,.slice dA dn dc,.slice gA gn gc] 44)
           rw[show (Gw.setCell ⟨X+1+1,0,none⟩ (.slice (some ⟨Gw.heap.size,0,none⟩) 2 2)).heap.size=Gw.heap.size by simp[World.setCell]] at this;exact this
          ·have h1:=qE.out;have h2:Below B w3 W₂:=((pl.out.aSZ).trans (jL.out.2.2.2.aSZ));exact az _ _ _ _ _ (az _ _ _ _ _ h1 h2) (iJ.out.aSZ)
          ·have h1:=tN.out;refine az _ _ _ _ _ h1 ?_;exact ((iK.out.blSe (p:=⟨X+1+1,0,none⟩) _).alloc (by simp[World.setCell];omega) _).mono uj
       ·obtain rfl:k=N:=by omega
        have dG:Hid (Np.qo known n.data.toList t x=none):=jq (by
         unfold Np.qo;rw[Bn.out];show Option.map _ (known.find? _)=none;rw[List.find?_eq_none.2 (λq hq=>by
          have:=BE.out q (by rw[kQ (by rw[HN.out];omega)];exact hq)
          rw[this];simp)]
         rfl)
        have em:Hid (Below W₂.heap.size W₂ ws):=jq (tV.out.trans (HB.out.mono tV.out.size));clear af;gi_wp2_with fail;exact⟨S,RdStep.of_below em.out,λk e=>.inl e,λk e=>by have:=vT.out k e;have:=em.out.size;omega,jL.out.next em.out dG.out⟩
end
section
open Go.RowKit Go.Sort Go.Shelf
def vw{α:Type}[DecidableEq α](xs:List α)(x:α):Int:=match xs.findIdx? (λy=>decide (y=x)) with | some i=>(i:Int) | none=>-1
theorem aJY{α:Type}[DecidableEq α]{xs:List α}{x:α}{k:Nat}(hk:xs[k]?=some x)(h:∀ j:Nat,j<k->xs[j]?≠some x):vw xs x=k:=by
 unfold vw;obtain⟨gG,hx⟩:=cQ.1 hk
 have:xs.findIdx? (λy=>decide (y=x))=some k:=by
  rw[List.findIdx?_eq_some_iff_getElem];refine⟨gG,by simp[hx],λj hj=>?_⟩;have h1:=h j hj;rw[aQ (by omega)] at h1;simp only[Qa];intro e;exact h1 (by rw[e])
 rw[this]
theorem aKZ{α:Type}[DecidableEq α]{xs:List α}{x:α}{k:Nat}(hk:xs.length<=k)(h:∀ j:Nat,j<k->xs[j]?≠some x):vw xs x = -1:=by
 unfold vw
 have:xs.findIdx? (λy=>decide (y=x))=none:=by
  rw[List.findIdx?_eq_none_iff];intro y hy;obtain⟨j,hj,e⟩:=List.getElem_of_mem hy;have h1:=h j (by omega);rw[aQ hj,e] at h1;simp only[decide_eq_false_iff_not];intro e2;exact h1 (by rw[e2])
 rw[this]
theorem aKQ{α:Type}[DecidableEq α](xs:List α)(x:α):decide (0<=vw xs x)=decide (x∈xs):=by
 unfold vw
 cases h:xs.findIdx? (λy=>decide (y=x)) with
 | some i=>
  obtain⟨hi,he,_⟩:=List.findIdx?_eq_some_iff_getElem.1 h;have hm:x∈xs:=by
   have:xs[i]=x:=by simpa using he
   rw[<-this];exact List.getElem_mem hi
  simp[hm]
 | none=>
  have hm:x∉xs:=λhm=>by
   have:=List.findIdx?_eq_none_iff.1 h x hm
   simp at this
  simp[hm]
theorem aKX{α:Type}{xs:List α}{x:α}{k:Nat}(h:∀ j:Nat,j<k->xs[j]?≠some x)(hk:xs[k]?≠some x):∀ j:Nat,j<k+1->xs[j]?≠some x:=λj hj=>by
 rcases Nat.lt_or_ge j k with h1 | h1
 ·exact h j h1
 ·rw[show j=k by omega];exact hk
theorem aKJ(s:ByteArray)(v:Value)(xs:List (List UInt8))(w:World)(hd:SlR RSt 1 w w.heap.size v xs) :
 Calls prog 220 #[v,.string s] w (aUZ w (.int .i64 (vw xs s.data.toList))):=by
 have HD:=jq hd;obtain⟨A,c,rfl,bi,fD⟩:=fc hd;clear hd;go_enter func220,ntmps220;go_wp2_with fail;go_loop [8] (λi=>∃ k:Nat,k<=xs.length/\i = .int .i64 k/\Hid (∀ j:Nat,j<k->xs[j]?≠some s.data.toList)) (λi=>xs.length - (intOf i).toNat)
 case atStart=>exact⟨0,jQ _,rfl,jq (λj hj=>by omega)⟩
 case round=>
  obtain⟨k,hk,rfl,HN⟩:=hrel;by_cases af:k<xs.length
  ·obtain⟨b,o,c',hA,_,_,hcell⟩:=DX HD.out (aQ af);simp only[Value.slice.injEq,true_and] at hA;obtain⟨rfl,rfl⟩:=hA;have HG:=jq (aQ af);generalize xs[k]=x at *;have dS:=kNN k;have dp:(k:Int)<(xs.length:Int):=by omega
   by_cases hx:x=s.data.toList
   ·have he:(s.toList == x)=true:=by rw[dQ,hx];simp
    have HX:=jq hx;clear hx;go_wp2_with fail;go_ret;exact⟨jb (aJY (by rw[HG.out,HX.out]) HN.out).symm,rfl⟩
   ·have he:(s.toList == x)=false:=by rw[dQ];simpa using λe=>hx e.symm
    have HX:=jq hx;clear hx;go_wp2_with fail;go_round
    case rel=>exact⟨k+1,by omega,by go_num,jq (aKX HN.out (by rw[HG.out];intro e;exact HX.out (Option.some.inj e)))⟩
    ·simp[intOf]<;>omega
  ·go_wp2_with fail;go_ret;exact⟨jb (aKZ (by omega) HN.out).symm,rfl⟩
theorem aJK(s:ByteArray)(v:Value)(xs:List (List UInt8))(w:World)(hd:SlR RSt 1 w w.heap.size v xs) :
 Calls prog 157 #[v,.string s] w (aUZ w (.bool (decide (s.data.toList∈xs)))):=by
 have HC:=jq (aKJ s v xs w hd);obtain⟨A,c,rfl,_,_⟩:=fc hd;clear hd;have HM:=jq (aKQ xs s.data.toList);go_enter func157,ntmps157;go_wp2_with fail;refine HC.out.mono ?_;rintro e w2 ⟨rfl,rfl⟩;go_wp2_with fail;go_ret;exact⟨aw (HM.out.trans (decide_eq_decide.2 Iff.rfl)),rfl⟩
theorem Mp(s:ByteArray)(hs:s.size<=1000000)(w:World) :
 Calls prog 160 #[.string s] w λe w'=>e = .returned (.int .i64 (Np.eD s.data.toList))/\w'=w:=by
 by_cases h:s.data.toList = [46]
 ·have h2:(s.toList == [46])=true:=by rw[dQ,h];rfl
  have HW:Hid (Np.eD s.data.toList=0):=jq (by unfold Np.eD;rw[QbQ h]);clear h;go_enter func160,ntmps160;go_wp2_with fail;go_ret;exact⟨by rw[HW.out];rfl,rfl⟩
 ·have h2:(s.toList == [46])=false:=by rw[dQ];simpa using h
  have HW:Hid (Np.eD s.data.toList=(s.data.toList.count 46:Int)+1):=jq (by unfold Np.eD;rw[Qc h]);clear h;go_enter func160,ntmps160;go_wp2_with fail;refine (Tryz.strings_Count_one s 46 w).mono ?_;rintro e w2 ⟨rfl,rfl⟩;have jr:Lib.countByte s.data.toList 46<=1000000:=by
   have:=List.count_le_length (a:=(46:UInt8)) (l:=s.data.toList)
   rw[be] at this;unfold Lib.countByte;omega
  go_wp2_with fail;go_ret;exact⟨by rw[HW.out];rfl,rfl⟩
abbrev DnN(n:List UInt8):={ z:List UInt8 // Np.aT n z=true }
def pF{n:List UInt8}(x:DnN n):Value:=bl x.1
def jT{n:List UInt8}(x y:DnN n):Int:=Np.eD y.1 - Np.eD x.1
theorem QY{n:List UInt8}(x:DnN n):x.1.length<=60:=by
 have:=x.2
 unfold Np.aT at this;simp only[Bool.and_eq_true] at this;exact Np.km this.2.1
theorem Mn(s:List UInt8):0<=Np.eD s/\Np.eD s<=s.length+1:=by
 unfold Np.eD
 have:=List.count_le_length (a:=(46:UInt8)) (l:=s)
 split<;>omega
theorem WL{n:List UInt8}(x y:DnN n)(w:World) :
 Calls prog 159 #[pF x,pF y] w λe w'=>e = .returned (.int .i64 (jT x y))/\w'=w:=by
 have l1:=QY x;have l2:=QY y;have d1:=Mn x.1;have d2:=Mn y.1;have HX:=jq (Mp ⟨x.1.toArray⟩ (by show x.1.toArray.size<=_;simp;omega) w);have HY:=jq (Mp ⟨y.1.toArray⟩ (by show y.1.toArray.size<=_;simp;omega) w);rw[show (⟨x.1.toArray⟩:ByteArray).data.toList=x.1 by simp] at HX;rw[show (⟨y.1.toArray⟩:ByteArray).data.toList=y.1 by simp] at HY;unfold pF bl jT;generalize Np.eD x.1=a at *;generalize Np.eD y.1=b at *;go_enter func159,ntmps159;go_wp2_with fail;refine HY.out.mono ?_;rintro e w2 ⟨rfl,rfl⟩;go_wp2_with fail;refine HX.out.mono ?_;rintro e w2' ⟨rfl,rfl⟩;go_wp2_with fail;go_ret;exact⟨rfl,rfl⟩
theorem aEZ{n:List UInt8} : SWO (ltOf (jT (n:=n))) where
 irrefl x:=by unfold ltOf jT;simp
 trans x y z h1 h2:=by
  unfold ltOf jT at *;simp only[Qa] at *;omega
 ntrans x y z h1 h2:=by
  unfold ltOf jT at *;simp only[decide_eq_false_iff_not] at *;omega
theorem Np.aCK:∀ s:List UInt8,(Np.aR s).length=s.count 46+1:=by
 intro s
 induction s with
 | nil=>rfl
 | cons c r ih=>
  rw[Np.aR];by_cases hc:c=46
  ·rw[QbQ hc,List.length_cons,ih,hc,List.count_cons_self]
  ·rw[Qc hc,List.count_cons_of_ne hc];have hne:=Np.nf r
   cases h:Np.aR r with
   | nil=>exact absurd h hne
   | cons x xs=>rw[h] at ih;simpa using ih
theorem Np.Mo{z:List UInt8} : Np.eD z=(Np.bY z).length:=by
 unfold Np.eD Np.bY;split
 ·rfl
 ·rw[Np.aCK];rfl
theorem Np.WP{n a b:List UInt8}(ha:Np.aT n a=true)(hb:Np.aT n b=true)(h:Np.eD a=Np.eD b):a=b:=by
 unfold Np.aT at ha hb;simp only[Bool.and_eq_true] at ha hb;have ea:a≠[]:=λe=>by rw[e] at ha;exact absurd ha.2.1 (by decide)
 have eb:b≠[]:=λe=>by rw[e] at hb;exact absurd hb.2.1 (by decide)
 have h1:=ha.2.2;have h2:=hb.2.2;rw[<-Np.vg ea,Np.xx] at h1;rw[<-Np.vg eb,Np.xx] at h2;obtain⟨p,hp⟩:=h1;obtain⟨q,hq⟩:=h2;rw[Np.Mo,Np.Mo] at h;have hl:(Np.bY a).length=(Np.bY b).length:=by omega
 refine Np.PV ?_;exact (List.append_inj' (hp.symm.trans hq) hl).2
theorem aFZ{n:List UInt8}(x y:DnN n)(h1:ltOf jT x y=false)(h2:ltOf jT y x=false):x=y:=by
 unfold ltOf jT at *;simp only[decide_eq_false_iff_not] at *;exact Subtype.ext (Np.WP x.2 y.2 (by omega))
theorem Y0{α:Type}[Inhabited α](enc:α->Value){w:World}{g n:Nat}{os:Array Obj}{cur:Array Value}{e:TypeId}{fr:Nat×Nat}(d:Array α)(hb:w.heap[g]?=some (.cells cur e fr)) :
 (sortWorld enc w g 0 n d os).heap[g]?=some (.cells (putCells enc 0 d cur) e fr):=by
 have hl:g<w.heap.size:=(eQ.1 hb).1;unfold sortWorld;rw[heap_grow_old _ _ (by simpa [putRow,mapBlock,Sort.ahead] using hl)];simp[putRow,mapBlock,Sort.ahead,Array.getElem?_modify,hb,onCells]
theorem XU{α:Type}[Inhabited α](enc:α->Value){w:World}{g n:Nat}{os:Array Obj}(d:Array α):w.grownBy (sortWorld enc w g 0 n d os) (some g):=by
 unfold sortWorld;refine⟨rfl,rfl,rfl,by simp,λq hq hne=>?_⟩;rw[heap_grow_old _ _ (by simpa using hq)]
 have:g≠q:=λe=>hne (by rw[e])
 simp[putRow,mapBlock,Sort.ahead,Array.getElem?_modify,this]
theorem XT(w:World):∃ q os,w=grow (w.drewN q) os:=⟨0,#[],by cases w;simp[grow,World.drewN]⟩
theorem aCZ(n:List UInt8)(cE:Np.ao n=true)(base:Nat)(v:Value)(xs:List (List UInt8))(w:World)(hown:iR base w v xs)(hv:∀ x∈xs,Np.aT n x=true)(hl:xs.length<=100000) :
 Calls prog 158 #[v,.func (.func 159) #[] #[]] w λe w'=>e = .returned (.tuple #[])/\iR base w' v (xs.mergeSort λa b=>decide (Np.eD b<=Np.eD a))/\w.grownBy w' v.ownBlock:=by
 have pT:Np.aT n n=true:=by
  unfold Np.aT;have hne:n≠[]:=λe=>by rw[e] at cE;exact absurd cE (by decide)
  rw[cE,Bool.true_and,Bool.true_and,<-Np.vg hne,Np.xx];exact⟨[],rfl⟩
 haveI:Inhabited (DnN n):=⟨⟨n,pT⟩⟩
 obtain⟨ys,Dw⟩:∃ ys:List (DnN n),ys.map (·.1)=xs:=⟨xs.pmap (λx h=>⟨x,h⟩) hv,by rw[List.map_pmap];simp⟩;subst Dw;have hs:((ys.map (·.1)).mergeSort λa b=>decide (Np.eD b<=Np.eD a))=(ys.mergeSort λx y=>!(ltOf jT) y x).map (·.1):=by
  refine (List.map_mergeSort (r:=λx y:DnN n=>!(ltOf jT) y x) (s:=λa b=>decide (Np.eD b<=Np.eD a)) (f:=λx:DnN n=>x.1) (l:=ys) (λa _ b _=>?_)).symm;unfold ltOf jT;rw[Bool.eq_iff_iff];simp only[Bool.not_eq_true',decide_eq_false_iff_not,Qa];omega
 have GS:w.ownsRow base 9 1 v (ys.map (·.1)).length ((ys.map (·.1)).map bl):=hown;rw[List.length_map] at GS hl;rcases GS.2 with ⟨rfl,h0⟩ | ⟨g,cap,cur,rfl,ig,hb,h1,h2,h3,h4⟩
 ·have:ys = []:=rQ h0
  subst this;refine (Tryz.slices_SortFunc_none (α:=DnN n) none 0 _ w).mono ?_;intro e w' hh;obtain⟨rfl,rfl⟩:=hh;exact⟨rfl,by rw[hs];simpa using hown,⟨rfl,rfl,rfl,bQ _,λ_ _ _=>rfl⟩⟩
 have eg:∀ args w,(callFunc 159 args).run prog w = .ok (.enter 159 args) w:=enters_of func159 (by kernel_rfl) rfl;have hH:Holds pF w g 0 ys.toArray:=λj hj=>by
  have hj':j<ys.length:=by simpa using hj
  refine⟨?_,by simp[World.frozen?,hb]⟩
  have:=GS.cellAt j (by omega)
  rw[Nat.zero_add,this,List.getElem?_map,List.getElem?_map,aQ hj',getElem!_pos ys.toArray j hj];simp[pF]
 have Gt:CmpLays1 prog 159 #[] (pF (n:=n)) (jT (n:=n)) g 0 ys.toArray.size w:=λm os dk _ x y=>(WL (n:=n) x y _).mono λe w' ⟨he,hw⟩=>⟨he,by rw[hw];exact XT _⟩;have uB:=Tryz.slices_SortFunc_total pF (λ_=>rfl) jT aEZ 159 #[] g 0 cap ys.toArray w eg Gt hH (eQ.1 hb).1 (by simp;omega) aFZ;have hlen:(ys.mergeSort λx y=>!(ltOf jT) y x).length=ys.length:=List.length_mergeSort _;rw[List.size_toArray] at uB;refine uB.mono λe w' ⟨he,m,os,hw⟩=>⟨he,?_,?_⟩
 ·subst hw;rw[hs];unfold iR;rw[List.length_map,hlen];refine⟨by simp,.inr ⟨g,cap,_,rfl,ig,Y0 pF _ hb,h1,h2,by simp[putCells,h3],?_⟩⟩;apply List.ext_getElem?;intro j;by_cases hj:j<ys.length
  ·have GJ:j<cur.size:=by omega
   have CY:j<(ys.mergeSort λx y=>!(ltOf jT) y x).length:=by omega
   rw[List.getElem?_take_of_lt (by omega),Array.getElem?_toList,List.getElem?_map,List.getElem?_map,aQ CY];simp[putCells,GJ,hj,pF]
  ·rw[List.getElem?_take_eq_none (by omega),List.getElem?_eq_none (by simp;omega)]
 ·subst hw;exact XU pF _
end
section
open Go.RowKit
section
variable {P:Program}
theorem aY.pushA{α:Type}{R:aUJ α}{sz:Nat}{e:TypeId}{base B:Nat}{w:World}{v:Value}{xs:List α}(h:aY R sz e base B w v xs)(t ty:TypeId)(i:TypeInfo)(z:Value)(bytes:Nat)(ht:P.underlying t=some (.slice e))(hi:P.info? e=some i)(hz:i.zero=some z)(iE:i.size=sz)(dZ:i.bytes=bytes)(dV:z.cells.size=sz)(au:0<sz)(bM:bytes<=100)
 (q:Nat) (r:List Value) (x:α) (hl:r.length=sz) (h1:∀ u∈r,u.oneCell'=true) (hc:∀ j u,r[j]?=some u->w.cell? ⟨q,j,none⟩=some u) (hR:R w B r x) (hn:xs.length<=1000000) (hk:eh R) (hB:B<=base) (hb:base<=w.heap.size) :
 ∃ v' w',(Builtin.append_ #[t,t] ty #[v,.slice (some ⟨q,0,none⟩) 1 1]).run P w = .ok v' w'/\aY R sz e base B w' v' (xs ++ [x])/\Below base w w'/\w.grownBy w' v.ownBlock/\(v'.ownBlock=v.ownBlock\/v'.ownBlock=some w.heap.size):=by
 obtain⟨rows,k1,k2,k3⟩:=h;obtain⟨v',w',hr,r1,r2,_,r4⟩:=run_append_own_at (P:=P) w base t ty e i z sz bytes ht hi hz iE dZ dV au v xs.length rows.flatten k2 ⟨q,0,none⟩ 1 1 r (by rw[hl];omega) (λj u hj=>by rw[show (⟨q,0,none⟩:Addr).add j=⟨q,j,none⟩ by cases j<;>simp[Addr.add]];exact hc j u hj) h1 (by simp[maxLen];omega) (by have:=Nat.mul_le_mul (show xs.length+1<=1000001 by omega) bM;omega) hb;have gS:Below base w w':=(vQ _ _).grown r2 hb (λg e=>(k2.lt g e).1);refine⟨v',w',hr,⟨rows ++ [r],by simp[k1],by rw[List.length_append,List.flatten_append];simpa using r1,λj r' y hr' hy=>?_⟩,gS,r2,r4⟩;rcases Nat.lt_or_ge j rows.length with af | j9
 ·rw[List.getElem?_append_left af] at hr';rw[List.getElem?_append_left (by omega)] at hy;obtain⟨h6,h7⟩:=k3 j r' y hr' hy;exact⟨h6,hk _ _ _ _ _ h7 (gS.mono hB)⟩
 ·rw[oQ j9] at hr';rw[oQ (by omega),<-k1] at hy;have h0:j - rows.length=0:=by have:=(cQ.1 hr').1;simp at this;omega
  rw[h0] at hr' hy;simp at hr' hy;subst hr' hy;exact⟨hl,hk _ _ _ _ _ hR (gS.mono hB)⟩
end
theorem aY.lts{α:Type}{R:aUJ α}{sz:Nat}{e:TypeId}{base B:Nat}{w:World}{v:Value}{xs:List α}(h:aY R sz e base B w v xs):∀ g,v.ownBlock=some g->base<=g/\g<w.heap.size:=by
 obtain⟨rows,_,h2,_⟩:=h;exact λg hg=>h2.lt g hg
theorem aY.aside{α:Type}{R:aUJ α}{sz:Nat}{e:TypeId}{base B:Nat}{w w':World}{v:Value}{xs:List α}(h:aY R sz e base B w v xs)(hk:∀ g,v.ownBlock=some g->w'.heap[g]?=w.heap[g]?)(hr:∀ r x,R w B r x->R w' B r x):aY R sz e base B w' v xs:=by
 obtain⟨rows,h1,h2,h3⟩:=h;exact⟨rows,h1,vl h2 hk,λi r x hr' hx=>⟨(h3 i r x hr' hx).1,hr _ _ (h3 i r x hr' hx).2⟩⟩
structure Rows2(B X:Nat)(w:World)(lv sv:Value)(l:List Np.Signed):Prop where
 rl:aY aB 5 44 B X w lv l
 rs:aY bO 4 25 B X w sv (l.map (·.set))
 ap:∀ g,lv.ownBlock=some g->sv.ownBlock≠some g
theorem Rows2.nil(w:World)(X:Nat):Rows2 w.heap.size X w (.slice none 0 0) (.slice none 0 0) []:=⟨aY.nil w,aY.nil w,λg h=>by simp[Value.ownBlock] at h⟩
theorem Rows2.keep{B X:Nat}{w w':World}{lv sv:Value}{l:List Np.Signed}(h:Rows2 B X w lv sv l)(hb:Below w.heap.size w w')(hB:X<=w.heap.size):Rows2 B X w' lv sv l:=
 ⟨h.rl.keep az hb hB,h.rs.keep eR hb hB,h.ap⟩
theorem Rows2.pushL{B X:Nat}{w:World}{lv sv:Value}{l:List Np.Signed}(h:Rows2 B X w lv sv l)(ty:TypeId)(q:Nat)(r:List Value)(x:Np.Signed)(hc:∀ j u,r[j]?=some u->w.cell? ⟨q,j,none⟩=some u)(hX:X<=B)(hR:aB w X r x)(hn:l.length<=1000000)(hb:B<=w.heap.size) :
 ∃ lv' w',(Builtin.append_ #[22,22] ty #[lv,.slice (some ⟨q,0,none⟩) 1 1]).run prog w = .ok lv' w'/\aY aB 5 44 B X w' lv' (l ++ [x])/\aY bO 4 25 B X w' sv (l.map (·.set))/\(∀ g,lv'.ownBlock=some g->sv.ownBlock≠some g)/\Below B w w'/\w.grownBy w' lv.ownBlock:=by
 obtain⟨i0,hi,cH,bx,cr⟩:=info_parts Tryz.infoSgn5;have hR':=hR;obtain⟨s,dv,sv',_,_,hd,hg,rfl⟩:=hR';obtain⟨A,c,rfl,_⟩:=hd;obtain⟨A2,c2,rfl,_⟩:=hg;obtain⟨lv',w',h1,h2,h3,h4,h5⟩:=h.rl.pushA (P:=prog) 22 ty i0 _ 80 underlying22 hi cH bx cr rfl (by decide) (by decide) q _ x rfl (λu hu=>by simp at hu;rcases hu with rfl | rfl | rfl | rfl | rfl<;>rfl) hc hR hn az hX hb;refine⟨lv',w',h1,h2,h.rs.aside (λg hg=>?_) (λr x hr=>eR _ _ _ _ _ hr (h3.mono hX)),λg hg=>?_,h3,h4⟩
 ·exact h4.block g (h.rs.lts g hg).2 (λe=>h.ap g e.symm hg)
 ·rcases h5 with h5 | h5
  ·exact h.ap g (h5 ▸ hg)
  ·rw[h5] at hg;cases hg;intro e
   have:=(h.rs.lts _ e).2
   omega
theorem Rows2.pushS{B X:Nat}{w:World}{lv sv:Value}{l:List Np.Signed}{x:Np.Signed}(hl:aY aB 5 44 B X w lv (l ++ [x]))(hs:aY bO 4 25 B X w sv (l.map (·.set)))(ha:∀ g,lv.ownBlock=some g->sv.ownBlock≠some g)(ty:TypeId)(q:Nat)(r:List Value)(hc:∀ j u,r[j]?=some u->w.cell? ⟨q,j,none⟩=some u)(hX:X<=B)(hR:bO w X r x.set)(hn:l.length<=1000000)(hb:B<=w.heap.size) :
 ∃ sv' w',(Builtin.append_ #[198,198] ty #[sv,.slice (some ⟨q,0,none⟩) 1 1]).run prog w = .ok sv' w'/\Rows2 B X w' lv sv' (l ++ [x])/\Below B w w':=by
 obtain⟨i0,hi,cH,bx,cr⟩:=info_parts Tryz.infoSet4;have hR':=hR;obtain⟨s,dv,_,_,hd,rfl⟩:=hR';obtain⟨A,c,rfl,_⟩:=hd;obtain⟨sv',w',h1,h2,h3,h4,h5⟩:=hs.pushA (P:=prog) 198 ty i0 _ 56 underlying198 hi cH bx cr rfl (by decide) (by decide) q _ x.set rfl (λu hu=>by simp at hu;rcases hu with rfl | rfl | rfl | rfl<;>rfl) hc hR (by simpa using hn) eR hX hb;refine⟨sv',w',h1,⟨hl.aside (λg hg=>?_) (λr x hr=>az _ _ _ _ _ hr (h3.mono hX)),by rw[List.map_append];exact h2,λg hg=>?_⟩,h3⟩
 ·exact h4.block g (hl.lts g hg).2 (λe=>ha g hg e.symm)
 ·rcases h5 with h5 | h5
  ·rw[h5];exact ha g hg
  ·rw[h5];intro e;cases e
   have:=(hl.lts _ hg).2
   omega
theorem IH(a:ByteArray):bl a.data.toList = .string a:=by cases a;simp[bl]
noncomputable def Np.sw(known:List Np.Signed)(n:List UInt8)(t:Int)(z:List UInt8):Option (List Np.Signed):=
 if Np.nu z n t ((Np.el known z).map (·.set))=(5,0)\/Np.nu z n t ((Np.el known z).map (·.set))=(6,0) then some (Np.el known z) else none
theorem Np.Ib(l:List Np.Signed)(p:Np.Signed)(z:List UInt8):Np.el (l ++ [p]) z=Np.el l z++if p.set.type=8/\Np.aE p=z then [p] else []:=by
 unfold Np.el;rw[List.filter_append];congr 1;by_cases h:p.set.type=8/\Np.aE p=z
 ·rw[QbQ h];simp[h.1,h.2]
 ·rw[Qc h];simp only[List.filter_cons,List.filter_nil];rw[Qc];simp only[Bool.and_eq_true,Qa,beq_iff_eq];exact h
theorem aoY{base:Nat}{w:World}{v:Value}{ps:List (List UInt8)}(h:iR base w v ps)(hl:ps.length<=140737488355328):SlR RSt 1 w w.heap.size v ps:=by
 refine IB (sz:=1) (e:=9) (base:=base) (λx=>[bl x]) (λ_ _=>rfl) ?_ hl (λx hx=>rfl)
 have:w.ownsRow base 9 1 v ps.length (ps.map bl):=h
 simpa [H7] using this
theorem aJX(kv adv:Value)(known:List Np.Signed)(gG:known.length<=1000)(kW:∀ x∈known,Np.bo x.set=true)(r:Nat)(an n:ByteArray)(cE:Np.ao n.data.toList=true)(aty al at' dr t:Int)(w:World)(B:Nat)(hB:B<=w.heap.size)(hR:bL w w.heap.size)(hk:SlR aB 5 w B kv known)(ha:∃ A n c,adv = .slice A n c) :
 Calls prog 93 #[qf kv r an aty al adv at' dr,.agg #[.string n,.int .i64 t]] w (Je B (Np.sB known n.data.toList t) w):=by
 have HK:=jq hk;have dK:=jq hR;have lR:=jq kW;have xa:=nL cE;have eC:=jq cE;obtain⟨A,N,C,rfl,hN,_,_⟩:=aM hk;have HN:=jq hN;have Cz:N<=1000:=by omega
 obtain⟨aA,aN,aC,rfl⟩:=ha;unfold qf;obtain⟨X,hX⟩:=aRZ w.heap.size;have HX:=jq hX;have uj:B<=X:=by omega
 obtain⟨w1,ah⟩:=aRZ (w.alloc (.cells #[.slice A N C,.map (some r),.string an,.int .i64 aty,.int .i64 al,.slice aA aN aC,.int .i64 at',.int .i64 dr] 80));obtain⟨w2,aX⟩:=aRZ (w1.alloc (.cells #[.string n,.int .i64 t] 27));have z1:w1.heap.size=X+1:=by rw[<-ah,<-hX];simp
 have z2:w2.heap.size=X+1+1:=by rw[<-aX];simp[z1]
 have ay:Below X w w1:=by rw[<-ah,<-hX];exact aj _ _
 have ag:Below w1.heap.size w1 w2:=by rw[<-aX];exact aj _ _
 have ax:=jq (ay.trans (ag.aSZ));have p1:=bD (r:=[.slice A N C,.map (some r),.string an,.int .i64 aty,.int .i64 al,.slice aA aN aC,.int .i64 at',.int .i64 dr]) rfl ah;have p2:=bD (r:=[.string n,.int .i64 t]) rfl aX;rw[hX] at p1;rw[z1] at p2;have HJ:Hid (∀ (wz:World),Below (X+1+1) w2 wz->∀ (j:Nat) u,[Value.slice A N C,.map (some r),.string an,.int .i64 aty,.int .i64 al,.slice aA aN aC,.int .i64 at',.int .i64 dr][j]?=some u->wz.cell? ⟨X,j,none⟩=some u):=jq (λwz hb j u hj=>aQY hb ((cl ag (by omega)).trans (p1 j u hj)));have HQ:Hid (∀ (wz:World),Below (X+1+1) w2 wz->∀ (j:Nat) u,[Value.string n,.int .i64 t][j]?=some u->wz.cell? ⟨X+1,j,none⟩=some u):=jq (λwz hb j u hj=>aQY hb (p2 j u hj));have j0:=HJ.out w2 (vQ _ _) 0 _ rfl;obtain⟨RES,co⟩:=aRZ (Np.sB known n.data.toList t);rw[co];have aO:=jq co;obtain⟨ZS,NF⟩:=aRZ (Np.ph n.data.toList known []);have LM:=jq NF;have dL:=jq aX;have Hq:X+1+1<=w2.heap.size:=by omega
 clear co NF p1 p2 ay ag hk hR kW cE hN z2;go_enter func93,ntmps93;go_wp2_with fail;clear ah aX;go_wp2_with fail;clear j0 z1;go_loopw [5,20] (λzv i wr=>∃ (k:Nat) (zs:List (List UInt8)) (A2:Option Addr) (n2 c4:Nat),k<=N/\i = .int .i64 k/\zv = .slice A2 n2 c4/\zs.length<=k/\Hid (iR (X+1+1) wr (.slice A2 n2 c4) zs)/\Hid (Below (X+1+1) w2 wr)/\Hid (∀ z∈zs,Np.aT n.data.toList z=true)/\Hid (Np.ph n.data.toList (known.drop k) zs=ZS)) (λ_ i _=>N - (intOf i).toNat)
 case atStart=>exact⟨0,[],none,0,0,jQ _,rfl,rfl,bQ _,jq ⟨by simp,.inl ⟨rfl,rfl⟩⟩,jq (vQ _ _),jq (λz hz=>by simp at hz),jq LM.out⟩
 case round=>
  obtain⟨k,zs,A2,n2,c4,hk,rfl,rfl,Dx,HO,HB,qG,nZ⟩:=hrel;obtain⟨ws,rfl⟩:=aRX wr;have Dz:=HB.out.size;by_cases af:k<N
  ·obtain⟨p,gT⟩:∃ p,known[k]?=some p:=⟨_,aQ (by rw[HN.out];exact af)⟩;have zt:Below X w ws:=ax.out.trans (HB.out.aSZ);obtain⟨b,o,c2,s,dv,sv,hA,dB,_,dq,eX,bZ,cx,e0,e1,e2,e3,e4⟩:=mE (HK.out.keep az (zt.mono uj)) gT;simp only[Value.slice.injEq] at hA;obtain⟨rfl,-,rfl⟩:=hA;obtain⟨dA,dn,dc,rfl,_,_,_⟩:=aM bZ;obtain⟨gA,gn,gc,rfl,_,_,_⟩:=aM cx;have iO:Hid (SlR dw 6 ws B (.slice gA gn gc) p.sigs):=jq cx;have xY:Hid (known.drop k=p::known.drop (k+1)):=jq (by
    obtain⟨hl,he⟩:=cQ.1 gT;rw[sQ hl,he])
   have dS:=kNN k;have dp:(k:Int)<(N:Int):=by omega
   obtain⟨w3,ci⟩:=aRZ (ws.alloc (.cells #[.string s,.int .i64 p.set.type,.int .i64 p.set.life,.slice dA dn dc,.slice gA gn gc] 44));have ai:Below ws.heap.size ws w3:=by rw[<-ci];exact aj _ _
   have l3:ws.heap.size<w3.heap.size:=by rw[<-ci];simp
   have p3:=bD (r:=[.string s,.int .i64 p.set.type,.int .i64 p.set.life,.slice dA dn dc,.slice gA gn gc]) rfl ci;have tJ:Hid (∀ (wz:World),Below w3.heap.size w3 wz->∀ (j:Nat) u,[Value.string s,.int .i64 p.set.type,.int .i64 p.set.life,.slice dA dn dc,.slice gA gn gc][j]?=some u->wz.cell? ⟨ws.heap.size,j,none⟩=some u):=jq (λwz hb j u hj=>(hb.cell (p:=⟨ws.heap.size,j,none⟩) l3).trans (p3 j u hj));have am:=jq ai;have g0:=p3 0 _ rfl;have g1:=p3 1 _ rfl;have g2:=p3 2 _ rfl;have g3:=p3 3 _ rfl;have g4:=p3 4 _ rfl;obtain⟨zp,ro⟩:∃ z:ByteArray,z.data.toList=Np.aE p:=⟨⟨(Np.aE p).toArray⟩,by simp⟩;have kG:=jq ro;have Z7:zp.size<=140737488355328:=by rw[<-be,ro];exact Iz cx
   clear gT dq bZ cx ai p3 ro zt;go_wp2_with fail;clear ci e0 e1 e2 e3 e4;go_wp2_with fail;refine (AK s _ _ _ _ p zp kG.out w3 ((iO.out.keep cK (am.out.aSZ)).more da (by omega))).mono ?_;rintro e w4 ⟨rfl,av⟩;have pl:=jq av;have aF:=jq (am.out.trans (av.mono am.out.size));have ve:=av.size;clear g0 g1 g2 g3 g4;have g1:=tJ.out w4 av 1 _ rfl;have Bd:=aRQ HB aF.out;have nV:=jq (HO.out.keep aF.out);have q0:=HQ.out w4 Bd.out 0 _ rfl;clear av;by_cases h8:p.set.type=8
   case' neg=>
    have h8':(p.set.type == 8)=false:=by simpa using h8
    have H8:=jq h8;clear h8;go_wp2_with fail;go_roundw
    case rel=>exact⟨k+1,zs,A2,n2,c4,by omega,by go_num,rfl,by omega,nV,Bd,qG,jq (by
     have h:=nZ.out;rw[xY.out,Np.ph,Qc (by rintro⟨h,_⟩;exact H8.out h)] at h;exact h)⟩
    case measure=>simp[intOf]<;>omega
   have h8':(p.set.type == 8)=true:=by simpa using h8
   have H8:=jq h8;clear h8;by_cases cH:zp.data.toList = []
   case' pos=>
    have Z0:(zp.toList == [])=true:=by rw[dQ,cH];rfl
    have nr:Hid (Np.aE p = []):=jq (by rw[<-kG.out];exact cH);clear cH;go_wp2_with fail;go_roundw
    case rel=>exact⟨k+1,zs,A2,n2,c4,by omega,by go_num,rfl,by omega,nV,Bd,qG,jq (by
     have h:=nZ.out;rw[xY.out,Np.ph,Qc (by rintro⟨_,h,_⟩;exact h nr.out)] at h;exact h)⟩
    case measure=>simp[intOf]<;>omega
   have Z0:(zp.toList == [])=false:=by rw[dQ];simpa using cH
   have nr:Hid (Np.aE p≠[]):=jq (by rw[<-kG.out];exact cH);clear cH;go_wp2_with fail;refine (qk n zp (by omega) Z7 w4).mono ?_;rintro e w5 ⟨rfl,aI⟩;have aK:=aRQ Bd aI;have gB:=jq (nV.out.keep aI);obtain⟨c3,iB⟩:=aRZ (Np.aT n.data.toList zp.data.toList);rw[iB];rw[kG.out] at iB;have g9:=jq iB;have th:=aI.size;clear iB aI g1 q0
   cases c3 with
   | false=>
    go_wp2_with fail;go_roundw
    case rel=>exact⟨k+1,zs,A2,n2,c4,by omega,by go_num,rfl,by omega,gB,aK,qG,jq (by
     have h:=nZ.out;rw[xY.out,Np.ph,Qc (by rintro⟨_,_,h,_⟩;rw[g9.out] at h;cases h)] at h;exact h)⟩
    case measure=>simp[intOf]<;>omega
   | true=>
    go_wp2_with fail;refine (aJK zp _ zs w5 (aoY gB.out (by omega))).mono ?_;rintro e w6 ⟨rfl,cS⟩;subst w6;by_cases hin:zp.data.toList∈zs
    case' pos=>
     have zJ:decide (zp.data.toList∈zs)=true:=uQ hin;have ye:Hid (Np.aE p∈zs):=jq (by rw[<-kG.out];exact hin);rw[zJ];clear hin zJ;go_wp2_with fail;go_roundw
     case rel=>exact⟨k+1,zs,A2,n2,c4,by omega,by go_num,rfl,by omega,gB,aK,qG,jq (by
      have h:=nZ.out;rw[xY.out,Np.ph,Qc (by rintro⟨_,_,_,h⟩;exact h ye.out)] at h;exact h)⟩
     case measure=>simp[intOf]<;>omega
    have zJ:decide (zp.data.toList∈zs)=false:=tQ hin;have ye:Hid (Np.aE p∉zs):=jq (by rw[<-kG.out];exact hin);rw[zJ];clear hin zJ;obtain⟨Q,hQ⟩:=aRZ w5.heap.size;obtain⟨wh,li⟩:=aRZ (w5.alloc (.cells #[.string zp] 9));have ij:Below w5.heap.size w5 wh:=by rw[<-li];exact aj _ _
    have Gv:=bD (r:=[.string zp]) hQ li 0 _ rfl;have Ti:=jq (gB.out.keep ij);have Hp:=ij.size;have pm:=aRQ aK ij;clear ij;go_wp2_with (at_builtin;refine aPK wh rfl _ _ rfl (X+1+1) _ zs rfl Ti.out Q zp.data.toList rfl (by rw[IH];exact Gv) (by omega) (by omega) ?_;intro v7 w7 zY bm;have bC:=jq zY;have cL:=jq bm;clear zY bm);obtain⟨A7,c7,rfl⟩:=bC.out.form;obtain⟨n7,GQ⟩:=aRZ ((zs ++ [zp.data.toList]).length);rw[GQ] at bC |-;clear li Gv;go_roundw
    case rel=>exact⟨k+1,zs ++ [zp.data.toList],A7,n7,c7,by omega,by go_num,rfl,by rw[List.length_append];simp;omega,bC,jq (pm.out.trans cL.out),jq (λz hz=>by
     rcases List.mem_append.1 hz with hz | hz
     ·exact qG.out z hz
     ·rw[List.mem_singleton.1 hz,kG.out];exact g9.out),jq (by
     have h:=nZ.out;rw[xY.out,Np.ph,QbQ ⟨H8.out,nr.out,g9.out,ye.out⟩] at h;rw[kG.out];exact h)⟩
    case measure=>simp[intOf]<;>omega
  ·have hkN:k=N:=by omega
   subst k;have LL:Hid (zs=ZS):=jq (by
    have h:=nZ.out;rw[List.drop_of_length_le (by rw[HN.out];omega)] at h;exact h)
   rw[LL.out] at HO qG Dx;clear LL nZ af;go_wp2_with fail;refine (aCZ n.data.toList eC.out (X+1+1) _ ZS ws HO.out qG.out (by omega)).mono ?_;rintro e w3 ⟨rfl,kY,gp⟩;have pu:=jq kY;obtain⟨SZ,CG⟩:=aRZ (ZS.mergeSort λa b=>decide (Np.eD b<=Np.eD a));rw[CG] at pu;have zr:SZ.length=ZS.length:=by rw[<-CG];exact List.length_mergeSort _
   have Ue:Hid (∀ z∈SZ,Np.aT n.data.toList z=true):=jq (λz hz=>qG.out z (by rw[<-CG] at hz;exact (List.mergeSort_perm _ _).mem_iff.1 hz));have am:Hid (Below (X+1+1) w2 w3):=jq (HB.out.grown gp (by omega) (λg e=>(HO.out.lt g e).1));have tO:Hid (RES=(SZ.findSome? (Np.sw known n.data.toList t)).getD []):=jq (by rw[<-aO.out,<-CG,<-LM.out];rfl);obtain⟨M,hM⟩:=aRZ ZS.length;have hM9:M<=1000:=by omega
   obtain⟨A3,c3,oK⟩:=pu.out.form;have O1:=oK;simp only[Value.slice.injEq] at O1;have nJ:w2.heap.size<=w3.heap.size:=am.out.size;have TX:=jq (pu.out.slr (by omega) (λz hz=>by have:=Ue.out z hz;unfold Np.aT at this;simp only[Bool.and_eq_true] at this;have:=Np.km this.2.1;omega));have fG:n2=M:=by omega
   subst fG;clear gp kY oK O1 HO qG HB Dx;go_wp2_with fail;go_loopw [55] (λi wr=>∃ k:Nat,k<=n2/\i = .int .i64 k/\Hid (Below w3.heap.size w3 wr)/\Hid (∀ z∈SZ.take k,Np.sw known n.data.toList t z=none)) (λi _=>n2 - (intOf i).toNat)
   case atStart=>exact⟨0,jQ _,rfl,jq (vQ _ _),jq (λz hz=>by simp at hz)⟩
   case round=>
    obtain⟨i,hi,rfl,HB,dG⟩:=hrel;obtain⟨wt,rfl⟩:=aRX wr;have oP:=HB.out.size;have iJ:Hid (Below (X+1+1) w2 wt):=aRQ am HB.out;by_cases af:i<n2
    ·obtain⟨z,Hr⟩:∃ z,SZ[i]?=some z:=⟨_,aQ (by omega)⟩;obtain⟨zb,zo,zs',hA,a7X,dV,Z8,Z6⟩:=IN (TX.out.keep rB HB.out) Hr;subst hA;have nZ:=jq dV;have Vx:=jq Hr;have wS:(0:Int)<=(i:Int):=by omega
     have GI:(i:Int)<(n2:Int):=by omega
     have j0:=HJ.out wt iJ.out 0 _ rfl;clear dV Hr;go_wp2_with fail;clear j0 Z6;go_loopw [11,12,62] (λlv sv jv wr=>∃ (j:Nat) (lA:Option Addr) (ln lc:Nat) (sA:Option Addr) (sn sc:Nat),j<=N/\jv = .int .i64 j/\lv = .slice lA ln lc/\sv = .slice sA sn sc/\wt.heap.size<=wr.heap.size/\Hid (Rows2 wt.heap.size B wr (.slice lA ln lc) (.slice sA sn sc) (Np.el (known.take j) z))/\Hid (Below wt.heap.size wt wr)) (λ_ _ jv _=>N - (intOf jv).toNat)
     case atStart=>exact⟨0,none,0,0,none,0,0,jQ _,rfl,rfl,rfl,bQ _,jq (Rows2.nil wt B),jq (vQ _ _)⟩
     case round=>
      obtain⟨j,lA,ln,lc,sA,sn,sc,hj,rfl,rfl,rfl,xw,d8,nj⟩:=hrel;obtain⟨wv,rfl⟩:=aRX wr;have Bc:Hid (Below (X+1+1) w2 wv):=aRQ iJ nj.out;by_cases Ox:j<N
      ·obtain⟨p,gT⟩:∃ p,known[j]?=some p:=⟨_,aQ (by rw[HN.out];exact Ox)⟩;have NE:Below X w wv:=ax.out.trans (Bc.out.aSZ);obtain⟨b,o,c2,s,dv,sv',hA,dB,_,dq,eX,bZ,cx,e0,e1,e2,e3,e4⟩:=mE (HK.out.keep az (NE.mono uj)) gT;simp only[Value.slice.injEq] at hA;obtain⟨rfl,-,rfl⟩:=hA;obtain⟨dA,dn,dc,rfl,_,_,_⟩:=aM bZ;obtain⟨gA,gn,gc,rfl,_,_,_⟩:=aM cx;have iO:Hid (SlR dw 6 wv B (.slice gA gn gc) p.sigs):=jq cx;have tN:Hid (aB wv B [.string s,.int .i64 p.set.type,.int .i64 p.set.life,.slice dA dn dc,.slice gA gn gc] p):=jq ⟨s,_,_,dq,eX,bZ,cx,rfl⟩;have TM:Hid (bO wv B [.string s,.int .i64 p.set.type,.int .i64 p.set.life,.slice dA dn dc] p.set):=jq ⟨s,_,dq,eX,bZ,rfl⟩;have fe:Hid (known.take (j+1)=known.take j ++ [p]):=jq (by
        obtain⟨hl,he⟩:=cQ.1 gT;rw[fQ hl,he])
       have fo:Hid ((Np.el (known.take j) z).length<=1000):=jq (by
        have h1:=List.length_filter_le (λs:Np.Signed=>decide (s.set.type=8)&&Np.aE s == z) (known.take j);have h2:(known.take j).length<=known.length:=by rw[List.length_take];omega
        unfold Np.el;omega)
       have wV:(0:Int)<=(j:Int):=by omega
       have zK:(j:Int)<(N:Int):=by omega
       obtain⟨w4,dD⟩:=aRZ (wv.alloc (.cells #[.string s,.int .i64 p.set.type,.int .i64 p.set.life,.slice dA dn dc,.slice gA gn gc] 44));have av:Below wv.heap.size wv w4:=by rw[<-dD];exact aj _ _
       have l4:wv.heap.size<w4.heap.size:=by rw[<-dD];simp
       have p4:=bD (r:=[.string s,.int .i64 p.set.type,.int .i64 p.set.life,.slice dA dn dc,.slice gA gn gc]) rfl dD;have ir:Hid (∀ (wz:World),wz.heap[wv.heap.size]?=w4.heap[wv.heap.size]?->∀ (j:Nat) u,[Value.string s,.int .i64 p.set.type,.int .i64 p.set.life,.slice dA dn dc,.slice gA gn gc][j]?=some u->wz.cell? ⟨wv.heap.size,j,none⟩=some u):=jq (λwz hb j u hj=>(iQ (a:=⟨wv.heap.size,j,none⟩) hb).trans (p4 j u hj));have aF:=jq av;have gi:=jq (d8.out.keep av (by omega));have g0:=p4 0 _ rfl;have g1:=p4 1 _ rfl;have g2:=p4 2 _ rfl;have g3:=p4 3 _ rfl;have g4:=p4 4 _ rfl;obtain⟨zp,ro⟩:∃ z:ByteArray,z.data.toList=Np.aE p:=⟨⟨(Np.aE p).toArray⟩,by simp⟩;have kG:=jq ro;clear gT dq bZ cx av p4 ro NE;by_cases h8:p.set.type=8
       case' neg=>
        have h8':(p.set.type == 8)=false:=by simpa using h8
        have H8:=jq h8;clear h8;go_wp2_with fail;clear dD e0 e1 e2 e3 e4;go_wp2_with fail;go_roundw
        case rel=>exact⟨j+1,lA,ln,lc,sA,sn,sc,by omega,by go_num,rfl,rfl,by omega,jq (by
         rw[fe.out,Np.Ib,Qc (λh=>H8.out h.1),List.append_nil];exact gi.out),jq (nj.out.trans (aF.out.mono xw))⟩
        case measure=>simp[intOf]<;>omega
       have h8':(p.set.type == 8)=true:=by simpa using h8
       have H8:=jq h8;clear h8;go_wp2_with fail;clear dD e0 e1 e2 e3 e4;go_wp2_with fail;refine (AK s _ _ _ _ p zp kG.out w4 ((iO.out.keep cK (aF.out.aSZ)).more da (by omega))).mono ?_;rintro e w6 ⟨rfl,bh⟩;have rm:=bh.size;have lH:=jq bh;have aU:=aRQ aF bh;have jh:=jq (gi.out.keep bh (by omega));clear g0 g1 g2 g3 g4 bh;by_cases gW:zp.data.toList=zs'.data.toList
       case' neg=>
        have aaQ:(zp.toList == zs'.toList)=false:=by rw[dQ,dQ];simpa using gW
        have B5:Hid (Np.aE p≠z):=jq (by rw[<-kG.out,<-nZ.out];exact gW);clear gW;go_wp2_with fail;go_roundw
        case rel=>exact⟨j+1,lA,ln,lc,sA,sn,sc,by omega,by go_num,rfl,rfl,by omega,jq (by
         rw[fe.out,Np.Ib,Qc (λh=>B5.out h.2),List.append_nil];exact jh.out),jq (nj.out.trans (aU.out.mono xw))⟩
        case measure=>simp[intOf]<;>omega
       have aaQ:(zp.toList == zs'.toList)=true:=by rw[dQ,dQ,gW];simp
       have B5:Hid (Np.aE p=z):=jq (by rw[<-kG.out,<-nZ.out];exact gW);clear gW;have g0:=ir.out w6 (lH.out.block wv.heap.size l4) 0 _ rfl;have g1:=ir.out w6 (lH.out.block wv.heap.size l4) 1 _ rfl;have g2:=ir.out w6 (lH.out.block wv.heap.size l4) 2 _ rfl;have g3:=ir.out w6 (lH.out.block wv.heap.size l4) 3 _ rfl;have g4:=ir.out w6 (lH.out.block wv.heap.size l4) 4 _ rfl;obtain⟨Q1,Yl⟩:=aRZ w6.heap.size;obtain⟨wh1,Hh⟩:=aRZ (w6.alloc (.cells #[.string s,.int .i64 p.set.type,.int .i64 p.set.life,.slice dA dn dc,.slice gA gn gc] 44));have wJ:Below w6.heap.size w6 wh1:=by rw[<-Hh];exact aj _ _
       have a7Y:=wJ.size;have Nu:aB wh1 B [.string s,.int .i64 p.set.type,.int .i64 p.set.life,.slice dA dn dc,.slice gA gn gc] p:=az _ _ _ _ _ tN.out ((aU.out.trans (wJ.aSZ)).aSZ);obtain⟨lv',wa,ed,G0,pZ,NJ,eU,GG⟩:=(jh.out.keep wJ (by omega)).pushL 22 Q1 _ p (bD (r:=[.string s,.int .i64 p.set.type,.int .i64 p.set.life,.slice dA dn dc,.slice gA gn gc]) Yl Hh) (by omega) Nu (by have:=fo.out;omega) (by omega);obtain⟨lA',ln',lc',rfl,_⟩:=G0.letF;have Pg:=GG.size;have C8:∀ g,(Value.slice lA ln lc).ownBlock=some g->g<wv.heap.size:=λg hg=>(d8.out.rl.lts g hg).2;have mW:wa.heap[wv.heap.size]?=w4.heap[wv.heap.size]?:=(GG.block wv.heap.size (by omega) (λe=>by have:=C8 _ e.symm;omega)).trans ((wJ.block _ (by omega)).trans (lH.out.block wv.heap.size l4));have k0:=ir.out wa mW 0 _ rfl;have k1:=ir.out wa mW 1 _ rfl;have k2:=ir.out wa mW 2 _ rfl;have k3:=ir.out wa mW 3 _ rfl;obtain⟨Q2,Ym⟩:=aRZ wa.heap.size;obtain⟨wh2,Hi⟩:=aRZ (wa.alloc (.cells #[.string s,.int .i64 p.set.type,.int .i64 p.set.life,.slice dA dn dc] 25));have zx:Below wa.heap.size wa wh2:=by rw[<-Hi];exact aj _ _
       have a8Q:=zx.size;have FP:Below wt.heap.size wv wh2:=(((aU.out.trans (wJ.aSZ)).mono xw).trans eU).trans (zx.aSZ);have Nv:bO wh2 B [.string s,.int .i64 p.set.type,.int .i64 p.set.life,.slice dA dn dc] p.set:=eR _ _ _ _ _ TM.out (FP.aSZ);obtain⟨sv'',wb,NI,uP,NQ⟩:=Rows2.pushS (G0.keep az zx (by omega)) (pZ.keep eR zx (by omega)) NJ 198 Q2 _ (bD (r:=[.string s,.int .i64 p.set.type,.int .i64 p.set.life,.slice dA dn dc]) Ym Hi) (by omega) Nv (by have:=fo.out;omega) (by omega);obtain⟨sA',sn',sc',rfl,_⟩:=uP.rs.letF;have tA:=jq ed;have Rn:=jq NI;have bv:=jq uP;have ku:Hid (Below wt.heap.size wt wb):=jq (nj.out.trans (FP.trans NQ));have oO:wt.heap.size<=wb.heap.size:=ku.out.size;have l6:wv.heap.size<w6.heap.size:=by omega
       have la:wv.heap.size<wa.heap.size:=by omega
       clear ed NI uP G0 pZ NJ eU GG C8 mW wJ zx FP Nv Nu NQ;go_wp2_with (first | (at_builtin;refine AT rfl _ _ 22 rfl _ _ _ wa rfl rfl tA.out ?_;clear Hh) | (at_builtin;refine AT rfl _ _ 198 rfl _ _ _ wb rfl rfl Rn.out ?_;clear Hi));go_roundw
       case rel=>exact⟨j+1,lA',ln',lc',sA',sn',sc',by omega,by go_num,rfl,rfl,oO,jq (by
        rw[fe.out,Np.Ib,QbQ ⟨H8.out,B5.out⟩];exact bv.out),ku⟩
       case measure=>simp[intOf]<;>omega
      ·have hjN:j=N:=by omega
       subst j;have qC:Hid (Rows2 wt.heap.size B wv (.slice lA ln lc) (.slice sA sn sc) (Np.el known z)):=jq (by have:=d8.out;rwa [kQ (by rw[HN.out];omega)] at this);have fo:Hid ((Np.el known z).length<=1000):=jq (by
        have h1:=List.length_filter_le (λs:Np.Signed=>decide (s.set.type=8)&&Np.aE s == z) known;unfold Np.el;omega)
       have fe:Hid (SZ.take (i+1)=SZ.take i ++ [z]):=jq (by
        obtain⟨hl,he⟩:=cQ.1 Vx.out;rw[fQ hl,he])
       have pw:Hid (SZ.take i ++ [z] <+: SZ):=jq (by rw[<-fe.out];exact List.take_prefix _ _);have q0:=HQ.out wv Bc.out 0 _ rfl;have q1:=HQ.out wv Bc.out 1 _ rfl;have NR:Below X w wv:=ax.out.trans (Bc.out.aSZ);have vW:=jq NR;clear Ox NR d8;go_wp2_with fail;refine (WN zs' n Z8 (by omega) t _ ((Np.el known z).map (·.set)) (by rw[List.length_map];exact fo.out) wv ((dK.out.keep (by rw[HX.out];exact vW.out)).more (by have:=vW.out.size;have:=HX.out;omega)) (qC.out.rs.slr jG (by omega) (by rw[List.length_map];have:=fo.out;omega))).mono ?_;rintro e w6 ⟨rfl,bh⟩;obtain⟨DV,Cu⟩:=aRZ (Np.nu zs'.data.toList n.data.toList t ((Np.el known z).map (·.set)));rw[Cu];rw[nZ.out] at Cu;have gh:=jq Cu;obtain⟨dk,de⟩:=DV;unfold Mm;dsimp only;have rm:=bh.size;have aU:=jq bh;clear q0 q1 bh Cu;by_cases wL:de=0
       case' neg=>
        have YX:(de == 0)=false:=by simpa using wL
        have Bq:=jq wL;clear wL;go_wp2_with fail;go_roundw
        case rel=>exact⟨i+1,by omega,by go_num,jq (HB.out.trans ((nj.out.trans (aU.out.mono xw)).mono oP)),jq (λy hy=>by
         rw[fe.out] at hy;rcases List.mem_append.1 hy with hy | hy
         ·exact dG.out y hy
         ·rw[List.mem_singleton.1 hy];unfold Np.sw;rw[gh.out,Qc (by rintro (h | h)<;>(simp only[Prod.mk.injEq] at h;exact Bq.out h.2))])⟩
        case measure=>simp[intOf]<;>omega
       have YX:(de == 0)=true:=by simpa using wL
       have Bq:=jq wL;clear wL;by_cases h5:dk=5
       case' pos=>
        have h5':(dk == 5)=true:=by simpa using h5
        have H5:=jq h5;clear h5;have HE:Hid (RES=Np.el known z):=jq (by
         rw[tO.out,FB pw.out dG.out (show Np.sw known n.data.toList t z=some (Np.el known z) by unfold Np.sw;rw[gh.out,QbQ (by left;rw[H5.out,Bq.out])])];rfl)
        have eH:Hid (SlR (qK B) 5 w6 w6.heap.size (.slice lA ln lc) (Np.el known z)):=jq (aY.slr (R:=qK B) (B:=B) (show aY (qK B) 5 44 wt.heap.size B w6 (.slice lA ln lc) (Np.el known z) from (qC.out.keep aU.out (by omega)).rl) (λ_ _ _ _ _ h _=>h) (by omega) (by have:=fo.out;omega));have bU:Hid (Below X w w6):=jq (vW.out.trans (aU.out.mono (by have:=vW.out.size;have:=HX.out;omega)));go_wp2_with fail;refine bodyPost_ret (v:=.slice lA ln lc) (by simp[results,results93,go_sem]) rfl ?_;rw[HE.out];exact⟨_,_,_,rfl,eH.out,by rw[HX.out];exact bU.out,λb o h=>by subst h;have h1:=((qC.out.keep aU.out (by omega)).rl.lts b rfl).1;have h2:=iJ.out.size;have h3:=HX.out;omega⟩
       have h5':(dk == 5)=false:=by simpa using h5
       have H5:=jq h5;clear h5;by_cases h6:dk=6
       case' pos=>
        have h6':(dk == 6)=true:=by simpa using h6
        have H6:=jq h6;clear h6;have HE:Hid (RES=Np.el known z):=jq (by
         rw[tO.out,FB pw.out dG.out (show Np.sw known n.data.toList t z=some (Np.el known z) by unfold Np.sw;rw[gh.out,QbQ (by right;rw[H6.out,Bq.out])])];rfl)
        have eH:Hid (SlR (qK B) 5 w6 w6.heap.size (.slice lA ln lc) (Np.el known z)):=jq (aY.slr (R:=qK B) (B:=B) (show aY (qK B) 5 44 wt.heap.size B w6 (.slice lA ln lc) (Np.el known z) from (qC.out.keep aU.out (by omega)).rl) (λ_ _ _ _ _ h _=>h) (by omega) (by have:=fo.out;omega));have bU:Hid (Below X w w6):=jq (vW.out.trans (aU.out.mono (by have:=vW.out.size;have:=HX.out;omega)));go_wp2_with fail;refine bodyPost_ret (v:=.slice lA ln lc) (by simp[results,results93,go_sem]) rfl ?_;rw[HE.out];exact⟨_,_,_,rfl,eH.out,by rw[HX.out];exact bU.out,λb o h=>by subst h;have h1:=((qC.out.keep aU.out (by omega)).rl.lts b rfl).1;have h2:=iJ.out.size;have h3:=HX.out;omega⟩
       have h6':(dk == 6)=false:=by simpa using h6
       have H6:=jq h6;clear h6;go_wp2_with fail;go_roundw
       case rel=>exact⟨i+1,by omega,by go_num,jq (HB.out.trans ((nj.out.trans (aU.out.mono xw)).mono oP)),jq (λy hy=>by
        rw[fe.out] at hy;rcases List.mem_append.1 hy with hy | hy
        ·exact dG.out y hy
        ·rw[List.mem_singleton.1 hy];unfold Np.sw;rw[gh.out,Qc (by rintro (h | h)<;>(simp only[Prod.mk.injEq] at h;first | exact H5.out h.1 | exact H6.out h.1))])⟩
       case measure=>simp[intOf]<;>omega
    ·have a0J:i=n2:=by omega
     subst i;have HE:Hid (RES = []):=jq (by
      rw[tO.out];have h:=dG.out;rw[kQ (by omega)] at h;rw[MB h];rfl)
     have bU:Hid (Below X w wt):=aRQ ax iJ.out;clear af;go_wp2_with fail;refine bodyPost_ret (v:=.slice none 0 0) (by simp[results,results93,go_sem]) rfl ?_;rw[HE.out];exact⟨_,_,_,rfl,g8 _ _,by rw[HX.out];exact bU.out,λb o h=>by cases h⟩
def Rd(p:Int×Np.mK)(w:World)(e:Ending)(w':World):Prop:=
 ∃ qn:ByteArray,e = .returned (.tuple #[.int .i64 p.1,.agg #[.string qn,.int .i64 p.2.2]])/\qn.data.toList=p.2.1/\qn.size<=140737488355328/\Below w.heap.size w w'
theorem PH(w:World):Calls prog 94 #[] w (aUQ w.heap.size w (.tuple #[.int .i64 2,.agg #[.string ⟨#[]⟩,.int .i64 0]])):=by
 obtain⟨w1,ah⟩:=aRZ (w.alloc (.cells #[.string ⟨#[]⟩,.int .i64 0] 27));have ay:Below w.heap.size w w1:=by rw[<-ah];exact aj _ _
 have l1:w.heap.size<w1.heap.size:=by rw[<-ah];simp
 have hq:w1.heap[w.heap.size]?=some (.cells [Value.string ⟨#[]⟩,.int .i64 0].toArray 27 (0,0)):=by rw[<-ah];exact heap_alloc_new _ _
 have q0:=ae [_,_] hq 0 _ rfl;have q1:=ae [_,_] hq 1 _ rfl;have fq:∀ i,w1.frozen? ⟨w.heap.size,i,none⟩=false:=λi=>by simp[World.frozen?,hq]
 have aH:=jq ay;clear ay hq;go_enter func94,ntmps94;go_wp2_with fail;clear ah;go_wp2_with fail;refine bodyPost_ret (v:=.tuple #[.int .i64 2,.agg #[.string ⟨#[]⟩,.int .i64 0]]) (by simp[results,results94,go_sem,q0,q1]) rfl ?_;exact⟨rfl,(aH.out.setCell (p:=⟨w.heap.size,0,none⟩) (bQ _) _).setCell (p:=⟨w.heap.size,1,none⟩) (bQ _) _⟩
theorem ajJ(b:Nat)(qn:ByteArray)(qt:Int)(w:World)(c0:w.cell? ⟨b,0,none⟩=some (.string qn))(c1:w.cell? ⟨b,1,none⟩=some (.int .i64 qt)):Calls prog 97 #[.pointer (some ⟨b,0,none⟩)] w (aUQ w.heap.size w (.tuple #[.int .i64 3,.agg #[.string qn,.int .i64 qt]])):=by
 have lb:=World.block_lt_of_cell? w _ c0;simp only at lb;obtain⟨w1,ah⟩:=aRZ (w.alloc (.cells #[.string ⟨#[]⟩,.int .i64 0] 27));have ay:Below w.heap.size w w1:=by rw[<-ah];exact aj _ _
 have l1:w.heap.size<w1.heap.size:=by rw[<-ah];simp
 have hq:w1.heap[w.heap.size]?=some (.cells [Value.string ⟨#[]⟩,.int .i64 0].toArray 27 (0,0)):=by rw[<-ah];exact heap_alloc_new _ _
 have q0:=ae [_,_] hq 0 _ rfl;have q1:=ae [_,_] hq 1 _ rfl;have fq:∀ i,w1.frozen? ⟨w.heap.size,i,none⟩=false:=λi=>by simp[World.frozen?,hq]
 have d0:=(ay.cell (p:=⟨b,0,none⟩) lb).trans c0;have d1:=(ay.cell (p:=⟨b,1,none⟩) lb).trans c1;have hne:w.heap.size≠b:=by omega
 have lb1:b<w1.heap.size:=by omega
 have aH:=jq ay;clear ay hq c0 c1;go_enter func97,ntmps97;go_wp2_with fail;clear ah;go_wp2_with fail;go_region
 all_goals
  go_wp2_with fail;refine bodyPost_ret (v:=.tuple #[.int .i64 3,.agg #[.string qn,.int .i64 qt]]) (by simp[results,results97,go_sem,q0,q1]) rfl ?_;exact⟨rfl,((Below.drew aH.out).setCell (p:=⟨w.heap.size,0,none⟩) (bQ _) _).setCell (p:=⟨w.heap.size,1,none⟩) (bQ _) _⟩
theorem ajZ(bs bz bk bj bb:Nat)(s zone:ByteArray)(hs:s.size<=140737488355328)(ty life:Int)(dv gv kv:Value)(bZ:∃ A n c,dv = .slice A n c)(Y5:∃ A n c,gv = .slice A n c)(kW:∃ A n c,kv = .slice A n c)(ds:List Np.Datum)(gs:List Np.Sig)(keys:List Np.Key)(at' dr:Int)(w:World)(hR:bL w w.heap.size)
 (hd:SlR bS 3 w w.heap.size dv ds) (hg:SlR dw 6 w w.heap.size gv gs) (hk:SlR iS 2 w w.heap.size kv keys)
 (s0:w.cell? ⟨bs,0,none⟩=some (.string s)) (s1:w.cell? ⟨bs,1,none⟩=some (.int .i64 ty)) (s2:w.cell? ⟨bs,2,none⟩=some (.int .i64 life)) (s3:w.cell? ⟨bs,3,none⟩=some dv) (s4:w.cell? ⟨bs,4,none⟩=some gv)
 (z0:w.cell? ⟨bz,0,none⟩=some (.string zone)) (k0:w.cell? ⟨bk,0,none⟩=some kv) (j6:w.cell? ⟨bj,6,none⟩=some (.int .i64 at')) (j7:w.cell? ⟨bj,7,none⟩=some (.int .i64 dr)) (b0:w.cell? ⟨bb,0,none⟩=some (.func (.func 94) #[] #[])) :
 Calls prog 95 #[.pointer (some ⟨bs,0,none⟩),.pointer (some ⟨bz,0,none⟩),.pointer (some ⟨bk,0,none⟩),.pointer (some ⟨bj,0,none⟩),.pointer (some ⟨bb,0,none⟩)] w (aUQ w.heap.size w (.tuple #[.int .i64 (if Np.e8 ⟨⟨s.data.toList,ty,life,ds⟩,gs⟩ zone.data.toList keys at' dr then 1 else 2),.agg #[.string ⟨#[]⟩,.int .i64 0]])):=by
 obtain⟨dA,dn,dc,rfl⟩:=bZ;obtain⟨gA,gn,gc,rfl⟩:=Y5;obtain⟨kA,kn,kc,rfl⟩:=kW;have lbs:=World.block_lt_of_cell? w _ s0;have lbz:=World.block_lt_of_cell? w _ z0;have lbk:=World.block_lt_of_cell? w _ k0;have lbj:=World.block_lt_of_cell? w _ j6;have lbb:=World.block_lt_of_cell? w _ b0;simp only at lbs lbz lbk lbj lbb;have HD:=jq hd;have HG:=jq hg;have HK:=jq hk;have dK:=jq hR;obtain⟨w1,ah⟩:=aRZ (w.alloc (.cells #[.string ⟨#[]⟩,.int .i64 0] 27));have ay:Below w.heap.size w w1:=by rw[<-ah];exact aj _ _
 have l1:w.heap.size<w1.heap.size:=by rw[<-ah];simp
 have hq:w1.heap[w.heap.size]?=some (.cells [Value.string ⟨#[]⟩,.int .i64 0].toArray 27 (0,0)):=by rw[<-ah];exact heap_alloc_new _ _
 have HQ:=jq hq;replace s0:=(ay.cell (p:=⟨bs,0,none⟩) lbs).trans s0;replace s1:=(ay.cell (p:=⟨bs,1,none⟩) lbs).trans s1;replace s2:=(ay.cell (p:=⟨bs,2,none⟩) lbs).trans s2;replace s3:=(ay.cell (p:=⟨bs,3,none⟩) lbs).trans s3;replace s4:=(ay.cell (p:=⟨bs,4,none⟩) lbs).trans s4;replace z0:=(ay.cell (p:=⟨bz,0,none⟩) lbz).trans z0;replace k0:=(ay.cell (p:=⟨bk,0,none⟩) lbk).trans k0;replace j6:=(ay.cell (p:=⟨bj,6,none⟩) lbj).trans j6;replace j7:=(ay.cell (p:=⟨bj,7,none⟩) lbj).trans j7;replace b0:=(ay.cell (p:=⟨bb,0,none⟩) lbb).trans b0;have aH:=jq ay;obtain⟨KD,un⟩:∃ KD:Int,(if Np.e8 ⟨⟨s.data.toList,ty,life,ds⟩,gs⟩ zone.data.toList keys at' dr then 1 else 2)=KD:=⟨_,rfl⟩;rw[un];have lO:=jq un;clear ay hq hd hg hk hR un;go_enter func95,ntmps95;go_wp2_with fail;clear ah;go_wp2_with fail;refine (Iy zone at' dr _ keys s hs ty life _ _ ds gs w1 ((dK.out.keep aH.out).more aH.out.size) (HD.out.later br bB aH.out) (HG.out.later cK da aH.out) (HK.out.later (λ_ _ _ _ _ h _=>h) (λ_ _ _ _ _ h _=>h) aH.out)).mono ?_;rintro e w2 ⟨rfl,ag⟩;obtain⟨r,hr⟩:=aRZ (Np.e8 ⟨⟨s.data.toList,ty,life,ds⟩,gs⟩ zone.data.toList keys at' dr);rw[hr];have By:Hid (KD=if r=true then 1 else 2):=jq (by rw[<-lO.out,hr]);have cr:=ag.size;have ax:=jq (aH.out.trans (ag.mono aH.out.size));have jg:=jq ((ag.block w.heap.size l1).trans HQ.out);replace b0:=aQY ag b0;clear ag hr s0 s1 s2 s3 s4 z0 k0 j6 j7;have fH:=jg.out;have q0:=ae [_,_] fH 0 _ rfl;have q1:=ae [_,_] fH 1 _ rfl;have fq:∀ i,w2.frozen? ⟨w.heap.size,i,none⟩=false:=λi=>by simp[World.frozen?,fH]
 have l2:w.heap.size<w2.heap.size:=by omega
 clear fH
 cases r with
 | true=>
  go_wp2_with fail;refine bodyPost_ret (v:=.tuple #[.int .i64 1,.agg #[.string ⟨#[]⟩,.int .i64 0]]) (by simp[results,results95,go_sem,q0,q1]) rfl ?_;exact⟨by rw[By.out];rfl,(ax.out.setCell (p:=⟨w.heap.size,0,none⟩) (bQ _) _).setCell (p:=⟨w.heap.size,1,none⟩) (bQ _) _⟩
 | false=>
  go_wp2_with fail;refine (PH w2).mono ?_;rintro e w3 ⟨rfl,ai⟩;have nJ:=ai.size;have am:=jq (ax.out.trans (ai.mono ax.out.size));have iM:=jq ((ai.block w.heap.size l2).trans jg.out);clear ai q0 q1 fq b0;have fW:=iM.out;have q0:=ae [_,_] fW 0 _ rfl;have q1:=ae [_,_] fW 1 _ rfl;have fq:∀ i,w3.frozen? ⟨w.heap.size,i,none⟩=false:=λi=>by simp[World.frozen?,fW]
  have l3:w.heap.size<w3.heap.size:=by omega
  clear fW;go_wp2_with fail;refine bodyPost_ret (v:=.tuple #[.int .i64 2,.agg #[.string ⟨#[]⟩,.int .i64 0]]) (by simp[results,results95,go_sem,q0,q1]) rfl ?_;exact⟨by rw[By.out];rfl,(am.out.setCell (p:=⟨w.heap.size,0,none⟩) (bQ _) _).setCell (p:=⟨w.heap.size,1,none⟩) (bQ _) _⟩
def Np.DG(known:List Np.Signed)(anchor:Np.DSet)(t d:Int)(x:Np.Signed):Int×Np.mK:=
 match Np.ja known anchor (Np.aE x) t d with
 | (ks,q,e)=>if e=0 then (if Np.e8 x (Np.aE x) ks t d then (1,([],0)) else (2,([],0))) else if e=4 then (3,q) else (2,([],0))
theorem Np.ajK{known:List Np.Signed}{anchor:Np.DSet}{t d:Int}{x:Np.Signed}(h:Np.aT x.set.name (Np.aE x)=false):Np.fI known anchor t d x=(2,([],0)):=by
 rw[Np.fI,h];rfl
theorem Np.ajX{known:List Np.Signed}{anchor:Np.DSet}{t d:Int}{x:Np.Signed}(h:(decide (x.set.type=6)&&x.set.name == Np.aE x)=true):Np.fI known anchor t d x=(2,([],0)):=by
 rw[Np.fI,h,Bool.or_true];rfl
theorem Np.PI{known:List Np.Signed}{anchor:Np.DSet}{t d:Int}{x:Np.Signed}(h:Np.aT x.set.name (Np.aE x)=true)(h2:(decide (x.set.type=6)&&x.set.name == Np.aE x)=false):Np.fI known anchor t d x=Np.DG known anchor t d x:=by
 rw[Np.fI,h,h2];rfl
theorem DT{P:Program}(w:World)(t:TypeId)(kt et:TypeId)(ht:P.underlying t=some (.map kt et))(hk:P.underlying kt=some (.int .i64))
 (r:Nat) (kvs:List (Int×Value)) (hr:ns r kvs w) (key:Int) (val:Value) (bX:kvs.lookup key=none) :
 ∃ w',(Instr.mapUpdate t (.map (some r)) (.int .i64 key) val).run P w = .ok () w'/\ns r (kvs ++ [(key,val)]) w'/\Turned r w w':=by
 obtain⟨es,c,hr,he⟩:=hr;have hf:=(MA key es.toList kvs 0 he).2 bX;have hc:(Instr.checkKey false 10000 kt (.int .i64 key)).run P w = .ok () w:=MapKept.run_checkKey (k:=.int .i64 key) hk (by simp[MapKept.IsKey]) false 9999;have iD:(Instr.mapUpdate t (.map (some r)) (.int .i64 key) val).run P w = .ok () { w with heap:=w.heap.setIfInBounds r (.map (es.push { key:=.int .i64 key,val:=val,born:=c }) (c+1)) }:=by
  simp[Instr.mapUpdate,run_underlying ht,MapKept.run_getObj_map hr,hc,MapKept.run_findKey hk hf,MapKept.run_setObj_map _ hr,Result.andThen]
 have hl:r<w.heap.size:=(eQ.1 hr).1;exact⟨_,iD,⟨_,_,by simp[hl];exact⟨rfl,rfl⟩,by simp[he]⟩,⟨rfl,rfl,rfl,by simp,λi hi=>by simp[Ne.symm hi]⟩⟩
theorem axZ{P:Program}(w:World)(t kt et:TypeId)(ht:P.underlying t=some (.map kt et))(hk:P.underlying kt=some (.int .i64))(r:Nat)(kvs:List (Int×Value))(hr:ns r kvs w)(key:Int)(z:Value)(hz:(zeroValue et).run P w = .ok z w) :
 (Instr.lookup t (.map (some r)) (.int .i64 key) true).run P w = .ok (.tuple #[(kvs.lookup key).getD z,.bool (kvs.lookup key).isSome]) w:=by
 obtain⟨es,c,hr,he⟩:=hr;have hf:=MA key es.toList kvs 0 he;have hc:∀ b,(Instr.checkKey b 10000 kt (.int .i64 key)).run P w = .ok () w:=λb=>MapKept.run_checkKey (k:=.int .i64 key) hk (by simp[MapKept.IsKey]) b 9999
 cases hl:kvs.lookup key with
 | none=>simp[Instr.lookup,run_underlying ht,MapKept.run_getObj_map hr,hc,MapKept.run_findKey hk (hf.2 hl),Result.andThen,hz]
 | some v=>
  obtain⟨j,hj⟩:=hf.1 v hl;simp[Instr.lookup,run_underlying ht,MapKept.run_getObj_map hr,hc,MapKept.run_findKey hk hj,Result.andThen]
theorem alQ(w8 w9:World)(h9:w8.alloc (.map #[] 0)=w9)(R:Nat)(hR:w8.heap.size=R)(f2 f3 f1:Value):∃ w10 w11 w12 w13:World,
 (Instr.mapUpdate 140 (.map (some R)) (.int .i64 0) f2).run prog w9 = .ok () w10/\
 (Instr.mapUpdate 140 (.map (some R)) (.int .i64 4) f3).run prog w10 = .ok () w11/\
 (Instr.mapUpdate 140 (.map (some R)) (.int .i64 31) f1).run prog w11 = .ok () w12/\
 (Instr.mapUpdate 140 (.map (some R)) (.int .i64 1) f1).run prog w12 = .ok () w13/\
 ns R [(0,f2),(4,f3),(31,f1),(1,f1)] w13/\Below R w8 w11/\Below R w8 w12/\Below R w8 w13/\R<w13.heap.size:=by
 subst h9;subst hR;have h0:=ns.made w8;have cF:Below w8.heap.size w8 (w8.alloc (.map #[] 0)):=aj _ _;have ut:=underlying140;have uk:=underlying34;obtain⟨w10,r1,m1,t1⟩:=DT (P:=prog) _ 140 _ _ ut uk _ _ h0 0 f2 rfl;obtain⟨w11,r2,m2,t2⟩:=DT (P:=prog) _ 140 _ _ ut uk _ _ m1 4 f3 rfl;obtain⟨w12,r3,m3,t3⟩:=DT (P:=prog) _ 140 _ _ ut uk _ _ m2 31 f1 rfl;obtain⟨w13,r4,m4,t4⟩:=DT (P:=prog) _ 140 _ _ ut uk _ _ m3 1 f1 rfl;have b1:=cF.trans (t1.below (n:=w8.heap.size) (bQ _));have b2:=b1.trans (t2.below (n:=w8.heap.size) (bQ _));have b3:=b2.trans (t3.below (n:=w8.heap.size) (bQ _));have b4:=b3.trans (t4.below (n:=w8.heap.size) (bQ _));exact⟨w10,w11,w12,w13,r1,r2,r3,r4,m4,b2,b3,b4,m4.lt⟩
theorem aKK(kv adv:Value)(known:List Np.Signed)(gG:known.length<=1000)(r:Nat)(an:ByteArray)(anchor:Np.DSet)(han:an.data.toList=anchor.name)(mj:an.size<=140737488355328)(at' dr:Int)(x:Np.Signed)(ex:List Value)(w:World)(hR:bL w w.heap.size)(hk:SlR aB 5 w w.heap.size kv known)(fP:SlR bS 3 w w.heap.size adv anchor.data)(hx:aB w w.heap.size ex x) :
 Calls prog 37 #[qf kv r an anchor.type anchor.life adv at' dr,.agg ex.toArray] w (Rd (Np.fI known anchor at' dr x) w):=by
 have HK:=jq hk;have qs:=jq fP;have dK:=jq hR;have fJ:=jq han;obtain⟨A,N,C,rfl,_,_,_⟩:=aM hk;obtain⟨aA,aN,aC,rfl,_,_,_⟩:=aM fP;have BT:=jq hx;obtain⟨s,dA,dn,dc,gA,gn,gc,rfl,dq,eX,_,_,u7,Hm⟩:=gZ hx;have gj:=jq dq;have yC:=jq u7;have KI:=jq Hm;unfold qf;obtain⟨RES,co⟩:=aRZ (Np.fI known anchor at' dr x);rw[co];have aO:=jq co;obtain⟨X,hX⟩:=aRZ w.heap.size;have HX:=jq hX;obtain⟨w1,ah⟩:=aRZ (w.alloc (.cells #[.slice A N C,.map (some r),.string an,.int .i64 anchor.type,.int .i64 anchor.life,.slice aA aN aC,.int .i64 at',.int .i64 dr] 80));obtain⟨w2,aX⟩:=aRZ (w1.alloc (.cells #[.string s,.int .i64 x.set.type,.int .i64 x.set.life,.slice dA dn dc,.slice gA gn gc] 44));obtain⟨w3,ci⟩:=aRZ (w2.alloc (.cells #[.string ⟨#[]⟩,.int .i64 0] 27));have z1:w1.heap.size=X+1:=by rw[<-ah,<-hX];simp
 have z2:w2.heap.size=X+1+1:=by rw[<-aX];simp[z1]
 have z3:w3.heap.size=X+1+1+1:=by rw[<-ci];simp[z2]
 have ay:Below X w w1:=by rw[<-ah,<-hX];exact aj _ _
 have ag:Below w1.heap.size w1 w2:=by rw[<-aX];exact aj _ _
 have ai:Below w2.heap.size w2 w3:=by rw[<-ci];exact aj _ _
 have am:=jq (ay.trans ((ag.aSZ).trans (ai.aSZ)));have p1:=bD (r:=[.slice A N C,.map (some r),.string an,.int .i64 anchor.type,.int .i64 anchor.life,.slice aA aN aC,.int .i64 at',.int .i64 dr]) rfl ah;have p2:=bD (r:=[.string s,.int .i64 x.set.type,.int .i64 x.set.life,.slice dA dn dc,.slice gA gn gc]) rfl aX;rw[hX] at p1;rw[z1] at p2;have uo:=heap_alloc_new w2 (.cells #[.string ⟨#[]⟩,.int .i64 0] 27);rw[ci,z2] at uo;have HJ:Hid (∀ (wz:World),Below w3.heap.size w3 wz->∀ (j:Nat) u,[Value.slice A N C,.map (some r),.string an,.int .i64 anchor.type,.int .i64 anchor.life,.slice aA aN aC,.int .i64 at',.int .i64 dr][j]?=some u->wz.cell? ⟨X,j,none⟩=some u):=jq (λwz hb j u hj=>aQY hb ((cl ai (by omega)).trans ((cl ag (by omega)).trans (p1 j u hj))));have HS:Hid (∀ (wz:World),Below w3.heap.size w3 wz->∀ (j:Nat) u,[Value.string s,.int .i64 x.set.type,.int .i64 x.set.life,.slice dA dn dc,.slice gA gn gc][j]?=some u->wz.cell? ⟨X+1,j,none⟩=some u):=jq (λwz hb j u hj=>aQY hb ((cl ai (by omega)).trans (p2 j u hj)));have HQ:Hid (∀ wz,Below w3.heap.size w3 wz->wz.heap[X+1+1]?=some (.cells [Value.string ⟨#[]⟩,.int .i64 0].toArray 27 (0,0))):=jq (λwz hb=>(hb.block _ (by omega)).trans uo);have s0:=HS.out w3 (vQ _ _) 0 _ rfl;have s1:=HS.out w3 (vQ _ _) 1 _ rfl;have s2:=HS.out w3 (vQ _ _) 2 _ rfl;have s3:=HS.out w3 (vQ _ _) 3 _ rfl;have s4:=HS.out w3 (vQ _ _) 4 _ rfl;obtain⟨zn,rn⟩:∃ z:ByteArray,z.data.toList=Np.aE x:=⟨⟨(Np.aE x).toArray⟩,by simp⟩;have kF:=jq rn;have Pi:zn.size<=140737488355328:=by rw[<-be,rn];exact Iz Hm
 clear co uo p1 p2 ay ag ai hk hR fP hx u7 Hm dq han rn;go_enter func37,ntmps37;go_wp2_with fail;clear ah aX ci;go_wp2_with fail;refine (AK s _ _ _ _ x zn kF.out w3 ((KI.out.keep cK (by rw[HX.out];exact am.out)).more da (by have:=am.out.size;have:=HX.out;omega))).mono ?_;rintro e w4 ⟨rfl,av⟩;have ve:=av.size;obtain⟨w5,bc⟩:=aRZ (w4.alloc (.cells #[.string zn] 9));have aI:Below w4.heap.size w4 w5:=by rw[<-bc];exact aj _ _
 have l5:w4.heap.size<w5.heap.size:=by rw[<-bc];simp
 have zc:=bD (r:=[.string zn]) rfl bc;have Fd:Hid (∀ (wz:World),Below w5.heap.size w5 wz->wz.cell? ⟨w4.heap.size,0,none⟩=some (.string zn)):=jq (λwz hb=>(hb.cell (p:=⟨w4.heap.size,0,none⟩) l5).trans (zc 0 _ rfl));have aK:=jq (av.trans (aI.mono ve));clear s0 s1 s2 s3 s4;have s0:=HS.out w5 aK.out 0 _ rfl;have s1:=HS.out w5 aK.out 1 _ rfl;have z0:=Fd.out w5 (vQ _ _);have a7Q:=aK.out.size;clear av aI zc;go_wp2_with fail;clear bc;go_wp2_with fail;refine (qk s zn eX Pi w5).mono ?_;rintro e w6 ⟨rfl,bh⟩;obtain⟨c1,bi⟩:=aRZ (Np.aT s.data.toList zn.data.toList);rw[bi];have cy:=jq bi;have aU:=aRQ aK bh;have Jz:=jq bh;have rm:=bh.size;clear s0 s1 z0 bi bh;have s0:=HS.out w6 aU.out 0 _ rfl;have s1:=HS.out w6 aU.out 1 _ rfl;have z0:=Fd.out w6 Jz.out;have hq:=HQ.out w6 aU.out;have q0:=ae [_,_] hq 0 _ rfl;have q1:=ae [_,_] hq 1 _ rfl;have fq:∀ i,w6.frozen? ⟨X+1+1,i,none⟩=false:=λi=>by simp[World.frozen?,hq]
 clear hq;have vD:=aRQ am aU.out
 cases c1 with
 | false=>
  have HE:Hid (RES=(2,([],0))):=jq (by rw[<-aO.out];exact Np.ajK (by rw[<-gj.out,<-kF.out];exact cy.out));go_wp2_with fail;refine bodyPost_ret (v:=.tuple #[.int .i64 2,.agg #[.string ⟨#[]⟩,.int .i64 0]]) (by simp[results,results37,go_sem,q0,q1]) rfl ?_;exact⟨⟨#[]⟩,by rw[HE.out],by rw[HE.out],by decide,by rw[HX.out];exact (vD.out.blSe (p:=⟨X+1+1,0,none⟩) _).blSe (p:=⟨X+1+1,1,none⟩) _⟩
 | true=>
  have HU:Hid (Np.aT x.set.name (Np.aE x)=true):=jq (by rw[<-gj.out,<-kF.out];exact cy.out);by_cases dt:x.set.type=6
  case' pos=>
   have O0:(x.set.type == 6)=true:=by simpa using dt
   have Ud:=jq dt;clear dt;by_cases gt:s.data.toList=zn.data.toList
   case' pos=>
    have Zp:(s.toList == zn.toList)=true:=by rw[dQ,dQ];simpa using gt
    have HE:Hid (RES=(2,([],0))):=jq (by
     rw[<-aO.out];exact Np.ajX (by rw[uQ Ud.out,<-gj.out,<-kF.out,Bool.true_and];simpa using gt))
    clear gt;go_wp2_with fail;refine bodyPost_ret (v:=.tuple #[.int .i64 2,.agg #[.string ⟨#[]⟩,.int .i64 0]]) (by simp[results,results37,go_sem,q0,q1]) rfl ?_;exact⟨⟨#[]⟩,by rw[HE.out],by rw[HE.out],by decide,by rw[HX.out];exact (vD.out.blSe (p:=⟨X+1+1,0,none⟩) _).blSe (p:=⟨X+1+1,1,none⟩) _⟩
   have Zp:(s.toList == zn.toList)=false:=by rw[dQ,dQ];simpa using gt
   have tN:Hid (RES=Np.DG known anchor at' dr x):=jq (by
    rw[<-aO.out];exact Np.PI HU.out (by rw[<-gj.out,<-kF.out,show (s.data.toList == zn.data.toList)=false by simpa using gt,Bool.and_false]))
   clear gt
  case' neg=>
   have O0:(x.set.type == 6)=false:=by simpa using dt
   have tN:Hid (RES=Np.DG known anchor at' dr x):=jq (by
    rw[<-aO.out];exact Np.PI HU.out (by rw[tQ dt,Bool.false_and]))
   clear dt
  all_goals
   have j0:=HJ.out w6 aU.out 0 _ rfl;have j2:=HJ.out w6 aU.out 2 _ rfl;have j3:=HJ.out w6 aU.out 3 _ rfl;have j4:=HJ.out w6 aU.out 4 _ rfl;have j5:=HJ.out w6 aU.out 5 _ rfl;have j6:=HJ.out w6 aU.out 6 _ rfl;have j7:=HJ.out w6 aU.out 7 _ rfl;go_wp2_with fail;refine (PW (.slice A N C) (.slice aA aN aC) known an zn anchor at' dr w6 ((dK.out.keep (by rw[HX.out];exact vD.out)).more (by have:=vD.out.size;have:=HX.out;omega)) ((HK.out.later az bf (by rw[HX.out];exact vD.out))) fJ.out mj (qs.out.later br bB (by rw[HX.out];exact vD.out)) Pi).mono ?_;rintro e w7 ⟨pv,pqn,rfl,pX,Zx,gT,bm⟩;rw[kF.out] at pX gT |-;obtain⟨PX,F6⟩:=aRZ (Np.ja known anchor (Np.aE x) at' dr);rw[F6] at pX gT |-;have pw:=jq F6;obtain⟨ks,⟨pq,pt⟩,pe⟩:=PX;dsimp only at pX gT |-;obtain⟨kA,kn,kc,rfl,sY,_,_⟩:=aM gT.slr;have Tl:=jq pX;have EQ:=jq gT;have ti:=bm.size;have cL:=aRQ aU bm;have nS:=jq bm;clear pX gT sY bm F6 j0 j2 j3 j4 j5 j6 j7 s0 s1 z0 q0 q1 fq;obtain⟨w8,dU⟩:=aRZ (((w7.alloc (.cells #[.slice kA kn kc] 46)).alloc (.cells #[.string pqn,.int .i64 pt] 27)).alloc (.cells #[.func (.func 94) #[] #[]] 138));obtain⟨w9,iF⟩:=aRZ (w8.alloc (.map #[] 0));obtain⟨R,hR⟩:=aRZ w8.heap.size;obtain⟨w10,w11,w12,w13,G8,G9,Ha,Hb,GP,fR,pN,nz,aVY⟩:=alQ w8 w9 iF R hR (.func (.func 95) #[] #[.pointer (some ⟨X+1,0,none⟩),.pointer (some ⟨w4.heap.size,0,none⟩),.pointer (some ⟨w7.heap.size,0,none⟩),.pointer (some ⟨X,0,none⟩),.pointer (some ⟨w7.heap.size+1+1,0,none⟩)]) (.func (.func 97) #[] #[.pointer (some ⟨w7.heap.size+1,0,none⟩)]) (.func (.func 94) #[] #[]);have q9:(Instr.makeMap 140 none).run prog w8 = .ok (.map (some R)) w9:=by
    rw[<-iF,<-hR];simp[Instr.makeMap,Result.andThen]
   have oN:w8.heap.size=w7.heap.size+1+1+1:=by rw[<-dU];simp
   have cu:Below w7.heap.size w7 w8:=by rw[<-dU];exact ((blAl).alloc (by simp) _).alloc (by simp;omega) _
   have kb:w8.cell? ⟨w7.heap.size,0,none⟩=some (.slice kA kn kc):=by rw[<-dU];simp[go_sem]
   have qb0:w8.cell? ⟨w7.heap.size+1,0,none⟩=some (.string pqn):=by rw[<-dU];simp[go_sem]
   have qb1:w8.cell? ⟨w7.heap.size+1,1,none⟩=some (.int .i64 pt):=by rw[<-dU];simp[go_sem]
   have bb:w8.cell? ⟨w7.heap.size+1+1,0,none⟩=some (.func (.func 94) #[] #[]):=by rw[<-dU];simp[go_sem]
   have bb11:=aQY fR bb;have bb12:=aQY pN bb;have bb13:=aQY nz bb;have fi:=axZ w13 140 _ _ underlying140 underlying34 R _ GP pe _ (zeroValue138 w13);have HMI:=jq GP;have fK:Hid (Below w3.heap.size w3 w13):=jq (cL.out.trans ((cu.aSZ).trans (nz.aSZ)));clear GP;have s0:=HS.out w13 fK.out 0 _ rfl;have s1:=HS.out w13 fK.out 1 _ rfl;have s2:=HS.out w13 fK.out 2 _ rfl;have s3:=HS.out w13 fK.out 3 _ rfl;have s4:=HS.out w13 fK.out 4 _ rfl;have j6:=HJ.out w13 fK.out 6 _ rfl;have j7:=HJ.out w13 fK.out 7 _ rfl;have JA:Hid (Below w7.heap.size w7 w13):=jq (cu.trans (nz.mono (by rw[<-hR];exact cu.size)));have z0:=Fd.out w13 (Jz.out.trans ((nS.out.trans (JA.out.mono ti)).mono rm));have kb13:=aQY nz kb;have qb130:=aQY nz qb0;have qb131:=aQY nz qb1;have Be:=aRQ am fK.out;have EW:Hid (RES=if pe=0 then (if Np.e8 x (Np.aE x) ks at' dr then (1,([],0)) else (2,([],0))) else if pe=4 then (3,(pq,pt)) else (2,([],0))):=jq (by rw[tN.out,Np.DG,pw.out]);clear fR pN nz cu kb qb0 qb1 bb tN oN;by_cases h0:pe=0
   case' pos=>
    subst h0;have nB:=fi;rw[show List.lookup (0:Int) _=some _ from rfl,Option.getD_some,Option.isSome_some] at nB;clear fi;have HE:Hid (RES=(if Np.e8 x (Np.aE x) ks at' dr then 1 else 2,([],0))):=jq (by rw[EW.out,QbQ rfl];split<;>rfl);go_wp2_with fail;clear dU iF;go_wp2_with fail;refine (ajZ (X+1) w4.heap.size w7.heap.size X (w7.heap.size+1+1) s zn eX x.set.type x.set.life (.slice dA dn dc) (.slice gA gn gc) (.slice kA kn kc) ⟨_,_,_,rfl⟩ ⟨_,_,_,rfl⟩ ⟨_,_,_,rfl⟩ x.set.data x.sigs ks at' dr w13 ((dK.out.keep (by rw[HX.out];exact Be.out)).more (by have:=Be.out.size;have:=HX.out;omega)) (yC.out.later br bB (by rw[HX.out];exact Be.out)) (KI.out.later cK da (by rw[HX.out];exact Be.out)) (EQ.out.slr.later ki oZ JA.out) s0 s1 s2 s3 s4 z0 kb13 j6 j7 bb13).mono ?_;rintro e w14 ⟨rfl,oi⟩;rw[kF.out,show (⟨⟨s.data.toList,x.set.type,x.set.life,x.set.data⟩,x.sigs⟩:Np.Signed)=x by rw[gj.out]];obtain⟨KD,un⟩:∃ KD:Int,(if Np.e8 x (Np.aE x) ks at' dr then 1 else 2)=KD:=⟨_,rfl⟩;rw[un];have lO:Hid (RES=(KD,([],0))):=jq (by rw[HE.out,un]);clear un s0 s1 s2 s3 s4 z0 j6 j7 kb13 qb130 qb131 bb11 bb12 bb13 nB G8 G9 Ha Hb q9 HE;have eG:=jq (fK.out.trans (oi.mono fK.out.size));have mr:=HQ.out w14 eG.out;have q0:=ae [_,_] mr 0 _ rfl;have q1:=ae [_,_] mr 1 _ rfl;have fq:∀ i,w14.frozen? ⟨X+1+1,i,none⟩=false:=λi=>by simp[World.frozen?,mr]
    have Pd:=eG.out.size;have lq14:X+1+1<w14.heap.size:=by omega
    have xS:=aRQ am eG.out;clear mr oi;go_wp2_with fail;refine bodyPost_ret (v:=.tuple #[.int .i64 (KD),.agg #[.string ⟨#[]⟩,.int .i64 0]]) (by simp[results,results37,go_sem,q0,q1]) rfl ?_;exact⟨⟨#[]⟩,by rw[lO.out],by rw[lO.out],by decide,by rw[HX.out];exact (xS.out.blSe (p:=⟨X+1+1,0,none⟩) _).blSe (p:=⟨X+1+1,1,none⟩) _⟩
   by_cases h4:pe=4
   case' pos=>
    subst h4;have nB:=fi;rw[show List.lookup (4:Int) _=some _ from rfl,Option.getD_some,Option.isSome_some] at nB;clear fi h0;have HE:Hid (RES=(3,(pq,pt))):=jq (by rw[EW.out];rfl);go_wp2_with fail;clear dU iF;go_wp2_with fail;refine (ajJ (w7.heap.size+1) pqn pt w13 qb130 qb131).mono ?_;rintro e w14 ⟨rfl,oi⟩;clear s0 s1 s2 s3 s4 z0 j6 j7 kb13 qb130 qb131 bb11 bb12 bb13 nB G8 G9 Ha Hb q9;have eG:=jq (fK.out.trans (oi.mono fK.out.size));have mr:=HQ.out w14 eG.out;have q0:=ae [_,_] mr 0 _ rfl;have q1:=ae [_,_] mr 1 _ rfl;have fq:∀ i,w14.frozen? ⟨X+1+1,i,none⟩=false:=λi=>by simp[World.frozen?,mr]
    have Pd:=eG.out.size;have lq14:X+1+1<w14.heap.size:=by omega
    have xS:=aRQ am eG.out;clear mr oi;go_wp2_with fail;refine bodyPost_ret (v:=.tuple #[.int .i64 (3),.agg #[.string pqn,.int .i64 pt]]) (by simp[results,results37,go_sem,q0,q1]) rfl ?_;exact⟨pqn,by rw[HE.out],by rw[HE.out];exact Tl.out,Zx,by rw[HX.out];exact (xS.out.blSe (p:=⟨X+1+1,0,none⟩) _).blSe (p:=⟨X+1+1,1,none⟩) _⟩
   have HE:Hid (RES=(2,([],0))):=jq (by rw[EW.out,Qc h0,Qc h4]);by_cases MU:pe=31
   case' pos=>
    subst MU;have nB:=fi;rw[show List.lookup (31:Int) _=some _ from rfl,Option.getD_some,Option.isSome_some] at nB
   case' neg=>
    by_cases h1:pe=1
    case' pos=>
     subst h1;have nB:=fi;rw[show List.lookup (1:Int) _=some _ from rfl,Option.getD_some,Option.isSome_some] at nB
    case' neg=>
     have nB:=fi;rw[List.lookup_cons,show (pe == 0)=false by simpa using h0,List.lookup_cons,show (pe == 4)=false by simpa using h4,List.lookup_cons,show (pe == 31)=false by simpa using MU,List.lookup_cons,show (pe == 1)=false by simpa using h1,List.lookup_nil,Option.getD_none,Option.isSome_none] at nB
   all_goals
    clear fi h0 h4;go_wp2_with fail;clear dU iF;go_wp2_with fail;refine (PH w13).mono ?_;rintro e w14 ⟨rfl,oi⟩;clear s0 s1 s2 s3 s4 z0 j6 j7 kb13 qb130 qb131 bb11 bb12 bb13 nB G8 G9 Ha Hb q9;have eG:=jq (fK.out.trans (oi.mono fK.out.size));have mr:=HQ.out w14 eG.out;have q0:=ae [_,_] mr 0 _ rfl;have q1:=ae [_,_] mr 1 _ rfl;have fq:∀ i,w14.frozen? ⟨X+1+1,i,none⟩=false:=λi=>by simp[World.frozen?,mr]
    have Pd:=eG.out.size;have lq14:X+1+1<w14.heap.size:=by omega
    have xS:=aRQ am eG.out;clear mr oi;go_wp2_with fail;refine bodyPost_ret (v:=.tuple #[.int .i64 (2),.agg #[.string ⟨#[]⟩,.int .i64 0]]) (by simp[results,results37,go_sem,q0,q1]) rfl ?_;exact⟨⟨#[]⟩,by rw[HE.out],by rw[HE.out],by decide,by rw[HX.out];exact (xS.out.blSe (p:=⟨X+1+1,0,none⟩) _).blSe (p:=⟨X+1+1,1,none⟩) _⟩
end
end Go.Proofs.YtadhigmjilijcaaGreatDoor
