/- Parts of the proof. No condition. -/
import Derived.Test.YtfnopgdcaanaiaaGreatDoorH11
import Derived.Test.YtfnopgdcaanaiaaGreatDoorH12
import Derived.Test.YtfnopgdcaanaiaaGreatDoorH14
set_option linter.all false
set_option maxRecDepth 100000
set_option maxHeartbeats 8000000
namespace Go.Proofs.YtfnopgdcaanaiaaGreatDoor
open Go.Proofs.Tryz
section
open Go.RowKit
def bU(base:Nat)(w:World)(v:Value)(ps:List (List UInt8)):Prop:=w.ownsRow base 9 1 v ps.length (ps.map aB)
theorem bU.form{base:Nat}{w:World}{v:Value}{ps:List (List UInt8)}(h:bU base w v ps):∃ A c,v = .slice A ps.length c:=vC h
theorem bU.alloc{base:Nat}{w:World}{v:Value}{ps:List (List UInt8)}(h:bU base w v ps)(o:Obj):bU base (w.alloc o) v ps:=World.ownsRow.alloc h o
theorem bU.keep{base:Nat}{w w':World}{v:Value}{ps:List (List UInt8)}(h:bU base w v ps)(hb:Below w.heap.size w w'):bU base w' v ps:=ga h (λg hg=>hb.block g (h.lt g hg).2)
theorem bU.slr{base:Nat}{w:World}{v:Value}{ps:List (List UInt8)}(h:bU base w v ps)(hl:ps.length<=140737488355328)(an:∀ x∈ps,x.length<=140737488355328):SlR RTx 1 w w.heap.size v ps:=by
 refine GC (sz:=1) (e:=9) (base:=base) (λx=>[aB x]) (λ_ _=>rfl) ?_ hl (λx hx=>⟨⟨x.toArray⟩,by simp,an x hx,rfl⟩)
 have:w.ownsRow base 9 1 v ps.length (ps.map aB):=h
 simpa [Mr] using this
section
variable {ops:Array Oper} {rest:List Oper} {o:Oper} {a:Act} {Q:Exit->Act->World->Prop}
theorem vT(w:World)(gT:o.guard=none)(s x:Operand)(ho:o.op = .call { callee:=.builtin .append,args:=#[s,x],argTypes:=#[116,116] })
 (base:Nat) (v:Value) (ps:List (List UInt8)) (hs:a.eval s=v) (hown:bU base w v ps) (blk:Nat) (y:List UInt8) (hx:a.eval x = .slice (some ⟨blk,0,none⟩) 1 1) (hc:w.cell? ⟨blk,0,none⟩=some (aB y)) (hlen:ps.length<=100000) (dD:base<=w.heap.size)
 (h:∀ v' w',bU base w' v' (ps ++ [y])->Below base w w'->wpList prog ops Q rest (a.put o.dst v') w'):wpList prog ops Q (o::rest) a w:=by
 obtain⟨i0,hi,eM,bj,aJ⟩:=info_parts Tryz.infoStr;refine wpList_append_own_at w gT s x 116 ho base 9 i0 (.string ⟨#[]⟩) 1 16 underlying116 hi eM bj aJ rfl (by decide) v ps.length (ps.map aB) hs hown ⟨blk,0,none⟩ 1 1 [aB y] hx rfl ?_ (by simp[Value.oneCell']) (by unfold maxLen;omega) (by omega) dD ?_
 ·intro j u hj
  cases j with
  | zero=>simp at hj;subst hj;simpa [Addr.add] using hc
  | succ j=>simp at hj
 ·intro v' w' ho' hg _ _;refine h v' w' ?_ ((vQ _ _).grown hg dD (λk hk=>(hown.lt k hk).1));have e:(ps ++ [y]).length=ps.length+1:=by simp
  unfold bU;rw[e,List.map_append];exact ho'
end
theorem XY(a:ByteArray)(v:Value)(l:List Np.Signed)(bI:l.length<=20000)(w:World)(hd:SlR bh 5 w w.heap.size v l) :
 Calls prog 349 #[.agg #[.string a,v]] w (tY RTx 1 w (Np.bY a.data.toList l)):=by
 have HD:=jq hd;obtain⟨A,c,rfl,bw,bT⟩:=al hd;clear hd;have mT:Hid (∀ k,(Np.bY a.data.toList (l.take k)).length<=20000):=jq (λk=>by
  unfold Np.bY;rw[List.length_map];exact yQ (List.length_filter_le _ _) (by rw[List.length_take];omega))
 have HW:Hid (∀ o,Below w.heap.size w (w.alloc o)):=jq (λo=>(vQ _ w).alloc (bQ _) _);have jP:Hid (∀ x∈Np.bY a.data.toList l,x.length<=140737488355328):=jq (λx hx=>by
  unfold Np.bY at hx;obtain⟨y,hy,rfl⟩:=List.mem_map.1 hx;obtain⟨j,hj,rfl⟩:=nQ.1 (List.mem_filter.1 hy).1;obtain⟨_,_,_,s,_,_,_,_,_,hs,hz,_⟩:=eq HD.out (aQ hj);rw[<-hs,aU];exact hz)
 go_enter func349,ntmps349;go_wp2_with fail;obtain⟨w1,ah⟩:∃ w1,w.alloc (.cells #[.string a,.slice A l.length c] 44)=w1:=⟨_,rfl⟩;have c0:w1.cell? ⟨w.heap.size,0,none⟩=some (.string a):=by rw[<-ah];simp[go_sem]
 have c1:w1.cell? ⟨w.heap.size,1,none⟩=some (.slice A l.length c):=by rw[<-ah];simp[go_sem]
 have bj:w1.heap.size=w.heap.size+1:=by rw[<-ah];simp
 have aq:Hid (Below w.heap.size w w1):=jq (by rw[<-ah];exact HW.out _);rw[ah];clear ah;go_loopw [3,4] (λvo i wr=>∃ (k:Nat),k<=l.length/\i = .int .i64 k/\Hid (Below w1.heap.size w1 wr)/\Hid (bU w1.heap.size wr vo (Np.bY a.data.toList (l.take k)))) (λ_ i _=>l.length - (intOf i).toNat)
 case atStart=>exact⟨0,jQ _,rfl,jq (vQ _ _),jq ⟨by simp,.inl ⟨rfl,rfl⟩⟩⟩
 case round=>
  obtain⟨k,hk,rfl,HB,HO⟩:=hrel;have an:=HB.out.size;have d0:wr.cell? ⟨w.heap.size,0,none⟩=some (.string a):=(HB.out.cell (by dsimp only;omega)).trans c0;have d1:wr.cell? ⟨w.heap.size,1,none⟩=some (.slice A l.length c):=(HB.out.cell (by dsimp only;omega)).trans c1;have aw:=jq (aq.out.trans (HB.out.mono (by omega)));have cZ:w.heap.size<wr.heap.size:=by omega
  by_cases aa:k<l.length
  ·obtain⟨x,ab⟩:∃ x,l[k]?=some x:=⟨_,aQ aa⟩;obtain⟨b,o,c',sn,dv,sv,hA,bJ,_,ay,cw,aW,aM,f0,f1,f2,f3,f4⟩:=eq (HD.out.keep aX aw.out) ab
   cases hA
   obtain⟨Ad,cd,rfl,_,_⟩:=al aW;have HT:Hid (Np.bY a.data.toList (l.take (k+1))=if x.set.type=2/\x.set.name≠a.data.toList then Np.bY a.data.toList (l.take k) ++ [x.set.name] else Np.bY a.data.toList (l.take k)):=jq (by
    obtain⟨hl,he⟩:=cQ.1 ab;rw[fQ hl,Np.R0,he])
   have aL:=jq ay;have bO:(0:Int)<=(k:Int):=by omega
   have bM:(k:Int)<(l.length:Int):=by omega
   have az:b<wr.heap.size:=by omega
   have aZ:Hid (∀ o,Below w1.heap.size w1 (wr.alloc o)):=jq (λo=>HB.out.alloc HB.out.size _);have kl:=jq (mT.out k);clear ab ay aW aM f4;by_cases h2:x.set.type=2
   ·have ac:(x.set.type == 2)=true:=by simpa using h2
    by_cases hn:x.set.name=a.data.toList
    ·have il:(!sn.toList == a.toList)=false:=by rw[dQ,dQ,aL.out,hn];simp
     have jN:=jq (HT.out.trans (Qc λh=>h.2 hn));clear h2 hn;go_wp2_with fail;go_roundw
     case rel=>exact⟨k+1,by omega,by go_num,jq (aZ.out _),jq (by rw[jN.out];exact HO.out.alloc _)⟩
     case measure=>simp[intOf] <;> omega
    ·have il:(!sn.toList == a.toList)=true:=by rw[dQ,dQ,aL.out];simpa using hn
     have jN:=jq (HT.out.trans (Qb ⟨h2,hn⟩));clear h2 hn;go_wp2_with (at_builtin;refine vT _ rfl _ _ rfl w1.heap.size _ (Np.bY a.data.toList (l.take k)) rfl ((HO.out.alloc _).alloc _) (wr.heap.size+1) sn.data.toList (by simp[go_sem]) (by simp[go_sem]) (by have:=kl.out;omega) (by simp;omega) ?_;intro v5 w5 fZ aI;have H5:=jq (And.intro fZ aI);clear fZ aI);go_roundw
     case rel=>exact⟨k+1,by omega,by go_num,jq (((aZ.out _).alloc (by simp;omega) _).trans H5.out.2),jq (by rw[jN.out,<-aL.out];exact H5.out.1)⟩
     case measure=>simp[intOf] <;> omega
   ·have ac:(x.set.type == 2)=false:=by simpa using h2
    have jN:=jq (HT.out.trans (Qc λh=>h2 h.1));clear h2;go_wp2_with fail;go_roundw
    case rel=>exact⟨k+1,by omega,by go_num,jq (aZ.out _),jq (by rw[jN.out];exact HO.out.alloc _)⟩
    case measure=>simp[intOf] <;> omega
  ·have HE:Hid (l.take k=l):=jq (kQ (by omega));go_wp2_with fail;go_ret;refine⟨_,rfl,?_,aw.out⟩;have h1:=HO.out;have h2:=mT.out k;rw[HE.out] at h1 h2;exact h1.slr (by omega) jP.out
theorem jT.fresh(b:Nat)(r:Option Nat)(W:World)(T:TypeId)(ns:List Int)(hb:b<W.heap.size)(hr:∀ k,r=some k->k<W.heap.size):jT b r (W.alloc (.cells (ns.map (Value.int .i64)).toArray T)) (.slice (some ⟨W.heap.size,0,none⟩) ns.length ns.length) ns:=by
 refine⟨_,_,rfl,bQ _,λi x hx=>⟨W.heap.size,0,rfl,by simp,by omega,λe=>by have:=hr _ e;omega,?_⟩⟩;rw[World.cell?_alloc_new];simp[hx]
structure KeyS(s:Np.Signed):Prop where
 name:s.set.name.length<=1000
 type:0<=s.set.type/\s.set.type<=1000000000
 life:0<=s.set.life/\s.set.life<=1000000000
 few:s.set.data.length<=100
 data:∀ d∈s.set.data,d.text.length<=1000/\(0<=d.n/\d.n<=1000000000)/\0<=d.m/\d.m<=1000000000
 fewS:s.sigs.length<=100
 sigs:∀ g∈s.sigs,g.zone.length<=1000/\(0<=g.key/\g.key<=1000000000)/\(0<=g.alg/\g.alg<=1000000000)/\(0<=g.frm/\g.frm<=1000000000)/\(0<=g.til/\g.til<=1000000000)/\0<=g.sum/\g.sum<18446744073709551616
def gC(f:List (List UInt8))(d:List Np.Datum):List UInt8:=Np.bN (f++d.flatMap Np.oh)
def gD(f:List (List UInt8))(g:List Np.Sig):List UInt8:=Np.bN (f++g.flatMap Np.qi)
theorem Jh{f:List (List UInt8)}{d:List Np.Datum}{k:Nat}{x:Np.Datum}(hx:d[k]?=some x):gC f (d.take (k+1))=gC f (d.take k)++Np.bN (x.text :: [x.n,x.m].map Np.aR):=by
 obtain⟨hl,he⟩:=cQ.1 hx;rw[fQ hl,he];unfold gC;rw[List.flatMap_append,<-List.append_assoc,R7];rfl
theorem Ji{f:List (List UInt8)}{d:List Np.Sig}{k:Nat}{x:Np.Sig}(hx:d[k]?=some x):gD f (d.take (k+1))=gD f (d.take k)++Np.bN (x.zone :: [x.key,x.alg,x.frm,x.til].map Np.aR)++Np.bN (Np.aR x.sum::([]:List Int).map Np.aR):=by
 obtain⟨hl,he⟩:=cQ.1 hx;rw[fQ hl,he];unfold gD;simp[Np.bN,Np.qi]
theorem AS{s:List UInt8}{ns:List Int}(hs:s.length<=1000)(hn:ns.length<=4)(h:∀ n∈ns,n<=1000000000):(Np.bN (s::ns.map Np.aR)).length<=1900:=by
 have:=M0 ns s (λn hm=>by have:=h n hm;omega)
 rw[Gv] at this;omega
theorem Ze(s:ByteArray)(ty life:Int)(dv sv:Value)(d:List Np.Datum)(g:List Np.Sig)(w:World)(hP:fx w)(hK:KeyS ⟨⟨s.data.toList,ty,life,d⟩,g⟩)(hd:SlR bn 3 w w.heap.size dv d)(hg:SlR dj 6 w w.heap.size sv g) :
 Calls prog 139 #[.agg #[.string s,.int .i64 ty,.int .i64 life,dv,sv]] w λe w'=>e = .returned (aB (Np.dC ⟨⟨s.data.toList,ty,life,d⟩,g⟩))/\Below w.heap.size w w':=by
 have HK:=jq hK;have HD:=jq hd;have HG:=jq hg;have HP:=jq hP;have Bk:=hP.lt;have mV:Hid (∀ f,f = [s.data.toList,Np.aR ty,Np.aR life,Np.aR d.length]->gD (f++d.flatMap Np.oh) g=Np.dC ⟨⟨s.data.toList,ty,life,d⟩,g⟩):=jq (λf hf=>by subst hf;unfold gD Np.dC Np.uE;rw[List.append_assoc]);have qq:Hid (Np.bN (s.data.toList :: [ty,life,(d.length:Int)].map Np.aR)=gC [s.data.toList,Np.aR ty,Np.aR life,Np.aR d.length] []):=jq (by simp[gC]);have an:s.size<=1000:=by have:=hK.name;rw[<-aU];exact this
 have qX:d.length<=100:=hK.few;have yu:g.length<=100:=hK.fewS;obtain⟨A1,c1,rfl,_,_⟩:=al hd;obtain⟨A2,c2,rfl,_,_⟩:=al hg;obtain⟨n1,bl⟩:∃ n,d.length=n:=⟨_,rfl⟩;obtain⟨n2,bP⟩:∃ n,g.length=n:=⟨_,rfl⟩;rw[bl] at HD mV qq qX |-;rw[bP] at HG yu |-;have jj:=jq bl;have jO:=jq bP;clear bl bP hd hg hK hP;obtain⟨f0,jZ⟩:∃ f0,[s.data.toList,Np.aR ty,Np.aR life,Np.aR n1]=f0:=⟨_,rfl⟩;have lB:=jq (mV.out f0 jZ.symm);rw[jZ] at qq;clear jZ mV;obtain⟨X,hX⟩:∃ X,w.heap.size=X:=⟨_,rfl⟩;obtain⟨Y,hY⟩:∃ Y,X+1=Y:=⟨_,rfl⟩;obtain⟨W0,cH⟩:∃ W0,w.alloc (.cells #[.string s,.int .i64 ty,.int .i64 life,.slice A1 n1 c1,.slice A2 n2 c2] 42)=W0:=⟨_,rfl⟩;have eM:W0.heap.size=Y:=by rw[<-cH,<-hY,<-hX];simp
 obtain⟨W1,ap⟩:∃ W1,W0.alloc (.cells #[.pointer none,.slice none 0 0] 198)=W1:=⟨_,rfl⟩;have cn:Below X w W0:=by rw[<-cH];exact (vQ _ _).alloc (Nat.le_of_eq hX.symm) _
 have az:Below Y W0 W1:=by rw[<-ap];exact (vQ _ _).alloc (Nat.le_of_eq eM.symm) _
 have bj:W1.heap.size=Y+1:=by rw[<-ap,<-eM];simp
 have OS:Hid (Bld 198 Y Y none [] W1):=jq (by rw[<-ap,<-eM];exact Bld.fresh _ _);have k0:W1.cell? ⟨X,0,none⟩=some (.string s):=(cl az (by omega)).trans (by rw[<-cH,<-hX];simp[go_sem]);have k1:W1.cell? ⟨X,1,none⟩=some (.int .i64 ty):=(cl az (by omega)).trans (by rw[<-cH,<-hX];simp[go_sem]);have k2:W1.cell? ⟨X,2,none⟩=some (.int .i64 life):=(cl az (by omega)).trans (by rw[<-cH,<-hX];simp[go_sem]);have k3:W1.cell? ⟨X,3,none⟩=some (.slice A1 n1 c1):=(cl az (by omega)).trans (by rw[<-cH,<-hX];simp[go_sem]);have k4:W1.cell? ⟨X,4,none⟩=some (.slice A2 n2 c2):=(cl az (by omega)).trans (by rw[<-cH,<-hX];simp[go_sem]);obtain⟨W2,qP⟩:∃ W2,W1.alloc (.cells #[.int .i64 ty,.int .i64 life,.int .i64 (n1:Int)] 3)=W2:=⟨_,rfl⟩;have ac:Below W1.heap.size W1 W2:=by rw[<-qP];exact (vQ _ _).alloc (bQ _) _
 have Ai:Hid (jT Y none W2 (.slice (some ⟨Y+1,0,none⟩) 3 3) [ty,life,(n1:Int)]):=jq (by rw[<-qP,<-bj];exact jT.fresh Y none W1 _ [ty,life,(n1:Int)] (by omega) (λk h=>by cases h));have aP:Hid (Below Y W0 W2):=jq (az.trans (ac.mono (by omega)));have aw:=jq cn;have mP:=jq ac;have Kd:X<W1.heap.size:=by omega
 have Td:Y<W1.heap.size:=by omega
 clear cn az ac;rw[hX] at HD HG Bk |-;go_enter func139,ntmps139;go_wp2_with fail;have aJ:Y+1<=W2.heap.size:=by have:=mP.out.size;omega
 have j3:=(cl mP.out (by omega)).trans k3;have j4:=(cl mP.out (by omega)).trans k4;have mY:Hid (fx W2):=jq (HP.out.keepAt (aw.out.trans (aP.out.mono (by omega))) (by omega));clear k0 k1 k2 k3 k4 cH ap qP hX Kd Td;have nf:Hid (∀ n∈[ty,life,(n1:Int)],0<=n/\n<=1000000000):=jq (λn hn=>by
  have h1:=HK.out.type;have h2:=HK.out.life;dsimp only at h1 h2;simp only[List.mem_cons,Qh,or_false] at hn;rcases hn with rfl | rfl | rfl <;> omega)
 refine (Ci Y Y none [] s _ _ W2 (OS.out.keep mP.out) Ai.out (λn hn=>by have:=nf.out n hn;omega) (by simp) (by omega) (by simp) (by omega) mY.out (by omega)).mono ?_;rintro e w3 ⟨rfl,r3,lT,cO⟩;rw[qq.out] at lT;have ak:Below Y W2 w3:=cO.below (bQ _) (λk h=>by cases h) (by omega);have PF:Hid (Bld 198 Y Y r3 (gC f0 []) w3):=jq (by simpa using lT);have el:=ak.size;have i3:=(cl ak (by omega)).trans j3;have i4:=(cl ak (by omega)).trans j4;have ar:Hid (Below X w w3):=jq (aw.out.trans ((aP.out.trans ak).mono (by omega)));have qn:Hid ((gC f0 []).length<=2000):=jq (by
  rw[<-qq.out]
  have:=AS (s:=s.data.toList) (ns:=[ty,life,(n1:Int)]) HK.out.name (by simp) (λn hn=>(nf.out n hn).2)
  omega)
 clear lT cO ak j3 j4;go_wp2_with fail;go_loopw [30] (λi wr=>∃ (k:Nat) (r:Option Nat),k<=n1/\i = .int .i64 k/\Y+1<=wr.heap.size/\Hid (Bld 198 Y Y r (gC f0 (d.take k)) wr)/\Hid (Below Y w3 wr)/\Hid ((gC f0 (d.take k)).length<=2000 * (k+1))) (λi _=>n1 - (intOf i).toNat)
 case atStart=>exact⟨0,r3,jQ _,rfl,by omega,by simpa using PF,jq (vQ _ _),by simpa using qn⟩
 case round=>
  obtain⟨k,r,hk,rfl,Kf,HL,bD,HA⟩:=hrel;have HB:=jq (ar.out.trans (bD.out.mono (by omega)));have q3:=(cl bD.out (by omega)).trans i3;have q4:=(cl bD.out (by omega)).trans i4;by_cases aa:k<n1
  ·obtain⟨x,ab⟩:∃ x,d[k]?=some x:=⟨_,aQ (by rw[jj.out];exact aa)⟩;obtain⟨b,o,c',t,hA,bJ,_,ht,tD,g0,g1,g2⟩:=AR (HD.out.keep de HB.out) ab;simp only[Value.slice.injEq] at hA;obtain⟨rfl,-,rfl⟩:=hA;have HT:=jq (Jh (f:=f0) ab);have HX:=jq (HK.out.data x (gQ ab));have oa:=jq ht;have lY:t.size<=1000:=by rw[<-aU,ht];exact HX.out.1
   clear ab ht tD;have bO:(0:Int)<=(k:Int):=by omega
   have bM:(k:Int)<(n1:Int):=by omega
   obtain⟨w4,bA⟩:∃ w4,wr.alloc (.cells #[.string t,.int .i64 x.n,.int .i64 x.m] 128)=w4:=⟨_,rfl⟩;have em:w4.heap.size=wr.heap.size+1:=by rw[<-bA];simp
   have av:Below wr.heap.size wr w4:=by rw[<-bA];exact (vQ _ _).alloc (bQ _) _
   have p0:w4.cell? ⟨wr.heap.size,0,none⟩=some (.string t):=by rw[<-bA];simp[go_sem]
   have p1:w4.cell? ⟨wr.heap.size,1,none⟩=some (.int .i64 x.n):=by rw[<-bA];simp[go_sem]
   have p2:w4.cell? ⟨wr.heap.size,2,none⟩=some (.int .i64 x.m):=by rw[<-bA];simp[go_sem]
   obtain⟨w5,aS⟩:∃ w5,w4.alloc (.cells #[.int .i64 x.n,.int .i64 x.m] 3)=w5:=⟨_,rfl⟩;have aI:Below w4.heap.size w4 w5:=by rw[<-aS];exact (vQ _ _).alloc (bQ _) _
   have nv:Below wr.heap.size wr w5:=av.trans (aI.mono (by omega));have DJ:Hid (jT Y r w5 (.slice (some ⟨wr.heap.size+1,0,none⟩) 2 2) [x.n,x.m]):=jq (by rw[<-aS,<-em];exact jT.fresh Y r w4 _ [x.n,x.m] (by omega) (λk h=>by have:=(HL.out.row.2.2 k h).2;omega));have qy:=jq (HL.out.keep nv);have lE:Hid (fx w5):=jq (HP.out.keepAt (HB.out.trans (nv.mono (by omega))) Bk);have iX:=nv.size;have qo:=jq nv;clear av aI nv;go_wp2_with fail;clear bA aS p0 p1 p2;refine (Ci Y Y r _ t _ _ w5 qy.out DJ.out (λn hn=>by
    have h1:=HX.out.2;simp only[List.mem_cons,Qh,or_false] at hn;rcases hn with rfl | rfl <;> omega) (by have:=HA.out;omega) (by omega) (by simp) (by omega) lE.out (by omega)).mono ?_
   rw[oa.out,<-HT.out];rintro e w6 ⟨rfl,r6,yD,vn⟩;have aT:Below Y w5 w6:=vn.below (bQ _) (λk h=>(qy.out.row.2.2 k h).1) (by omega);have H6:=jq (And.intro yD (bD.out.trans ((qo.out.mono (by omega)).trans aT)));have gm:=aT.size;have iy:Hid ((gC f0 (d.take (k+1))).length<=2000 * (k+1+1)):=jq (by
    rw[HT.out,List.length_append]
    have:=HA.out
    have:=AS (s:=x.text) (ns:=[x.n,x.m]) HX.out.1 (by simp) (λn hn=>by
     have h1:=HX.out.2;simp only[List.mem_cons,Qh,or_false] at hn;rcases hn with rfl | rfl <;> omega)
    omega)
   clear yD vn aT;go_wp2_with fail;go_roundw
   case rel=>exact⟨k+1,r6,by omega,by go_num,by omega,jq H6.out.1,jq H6.out.2,iy⟩
   case measure=>simp[intOf] <;> omega
  ·have fL:Hid (d.take k=d):=jq (kQ (by rw[jj.out];omega));have OI:Hid ((gC f0 d).length<=202000):=jq (by have:=HA.out;rw[fL.out] at this;omega);rw[fL.out] at HL;go_wp2_with fail;clear aa hk;obtain⟨wo,rfl⟩:∃ wo,wo=wr:=⟨_,rfl⟩;obtain⟨f1,mx⟩:∃ f1,f0++d.flatMap Np.oh=f1:=⟨_,rfl⟩;have qx:=jq lB.out;rw[mx] at qx;have PI:Hid (Bld 198 Y Y r (gD f1 []) wo):=jq (by have:=HL.out;unfold gC at this;rw[mx] at this;simpa [gD] using this);have HAS:Hid ((gD f1 []).length<=202000):=jq (by have:=OI.out;unfold gC at this;rw[mx] at this;simpa [gD] using this);clear mx;go_loopw [47] (λi wr=>∃ (k:Nat) (r:Option Nat),k<=n2/\i = .int .i64 k/\Y+1<=wr.heap.size/\Hid (Bld 198 Y Y r (gD f1 (g.take k)) wr)/\Hid (Below Y wo wr)/\Hid ((gD f1 (g.take k)).length<=202000+4000 * k)) (λi _=>n2 - (intOf i).toNat)
   case atStart=>exact⟨0,r,jQ _,rfl,by omega,by simpa using PI,jq (vQ _ _),by simpa using HAS⟩
   case round=>
    obtain⟨k,r,hk,rfl,Kf,HL,iA,HA⟩:=hrel;have HC:=jq (HB.out.trans (iA.out.mono (by omega)));have s4:=(cl iA.out (by omega)).trans q4;by_cases aa:k<n2
    ·obtain⟨x,ab⟩:∃ x,g[k]?=some x:=⟨_,aQ (by rw[jO.out];exact aa)⟩;obtain⟨b,o,c',t,hA,bJ,ht,tD,g0,g1,g2,g3,g4,g5⟩:=mJ (HG.out.keep ep HC.out) ab;simp only[Value.slice.injEq] at hA;obtain⟨rfl,-,rfl⟩:=hA;have HT:=jq (Ji (f:=f1) ab);have HX:=jq (HK.out.sigs x (gQ ab));have oa:=jq ht;have lY:t.size<=1000:=by rw[<-aU,ht];exact HX.out.1
     clear ab ht tD;have bO:(0:Int)<=(k:Int):=by omega
     have bM:(k:Int)<(n2:Int):=by omega
     have I0:Hid (∀ n∈[x.key,x.alg,x.frm,x.til],0<=n/\n<=1000000000):=jq (λn hn=>by
      have h1:=HX.out.2;simp only[List.mem_cons,Qh,or_false] at hn;rcases hn with rfl | rfl | rfl | rfl <;> omega)
     obtain⟨w4,bA⟩:∃ w4,wr.alloc (.cells #[.string t,.int .i64 x.key,.int .i64 x.alg,.int .i64 x.frm,.int .i64 x.til,.int .u64 x.sum] 50)=w4:=⟨_,rfl⟩;have em:w4.heap.size=wr.heap.size+1:=by rw[<-bA];simp
     have av:Below wr.heap.size wr w4:=by rw[<-bA];exact (vQ _ _).alloc (bQ _) _
     have p0:w4.cell? ⟨wr.heap.size,0,none⟩=some (.string t):=by rw[<-bA];simp[go_sem]
     have p1:w4.cell? ⟨wr.heap.size,1,none⟩=some (.int .i64 x.key):=by rw[<-bA];simp[go_sem]
     have p2:w4.cell? ⟨wr.heap.size,2,none⟩=some (.int .i64 x.alg):=by rw[<-bA];simp[go_sem]
     have p3:w4.cell? ⟨wr.heap.size,3,none⟩=some (.int .i64 x.frm):=by rw[<-bA];simp[go_sem]
     have p4:w4.cell? ⟨wr.heap.size,4,none⟩=some (.int .i64 x.til):=by rw[<-bA];simp[go_sem]
     have p5:w4.cell? ⟨wr.heap.size,5,none⟩=some (.int .u64 x.sum):=by rw[<-bA];simp[go_sem]
     obtain⟨w5,aS⟩:∃ w5,w4.alloc (.cells #[.int .i64 x.key,.int .i64 x.alg,.int .i64 x.frm,.int .i64 x.til] 3)=w5:=⟨_,rfl⟩;have aI:Below w4.heap.size w4 w5:=by rw[<-aS];exact (vQ _ _).alloc (bQ _) _
     have nv:Below wr.heap.size wr w5:=av.trans (aI.mono (by omega));have DJ:Hid (jT Y r w5 (.slice (some ⟨wr.heap.size+1,0,none⟩) 4 4) [x.key,x.alg,x.frm,x.til]):=jq (by rw[<-aS,<-em];exact jT.fresh Y r w4 _ [x.key,x.alg,x.frm,x.til] (by omega) (λk h=>by have:=(HL.out.row.2.2 k h).2;omega));have o5:=(cl aI (by omega)).trans p5;have lF:Hid (∀ k,r=some k->k<wr.heap.size):=jq (λk h=>(HL.out.row.2.2 k h).2);have qy:=jq (HL.out.keep nv);have lE:Hid (fx w5):=jq (HP.out.keepAt (HC.out.trans (nv.mono (by omega))) Bk);have iX:=nv.size;have aqJ:=aI.size;have qo:=jq nv;clear av aI nv;go_wp2_with fail;clear bA aS p0 p1 p2 p3 p4 p5;refine (Ci Y Y r _ t _ _ w5 qy.out DJ.out (λn hn=>by have:=I0.out n hn;omega) (by have:=HA.out;omega) (by omega) (by simp) (by omega) lE.out (by omega)).mono ?_;rw[oa.out];rintro e w6 ⟨rfl,r6,yD,vn⟩;have aT:Below Y w5 w6:=vn.below (bQ _) (λk h=>(qy.out.row.2.2 k h).1) (by omega);have Hs:Hid ((Np.bN (x.zone :: [x.key,x.alg,x.frm,x.til].map Np.aR)).length<=1900):=jq (AS HX.out.1 (by simp) (λn hn=>(I0.out n hn).2));have t5:=(vn.cell (k:=wr.heap.size) (by omega) (by omega) (λe=>by have:=lF.out _ e;omega) 5).trans o5;have Dx:=jq yD;have Tr:=jq (iA.out.trans ((qo.out.mono (by omega)).trans aT));have gm:=aT.size;have pg:Hid (fx w6):=jq (lE.out.keepAt aT (by omega));clear yD vn aT o5;go_wp2_with fail;refine (J1 x.sum HX.out.2.2.2.2.2.1 HX.out.2.2.2.2.2.2 w6 pg.out).mono ?_;rintro e w7 ⟨rfl,fz⟩;have oI:=fz.size;have Ab:=jq (Dx.out.keep fz);have DP:=jq (pg.out.keep fz);have eO:=jq (Tr.out.trans (fz.mono (by omega)));have jP:Hid ((⟨(Np.aR x.sum).toArray⟩:ByteArray).size<=100):=jq (by rw[<-aU];have:=sU HX.out.2.2.2.2.2.2;simp;omega);clear fz t5;go_wp2_with fail;refine (Ci Y Y r6 _ ⟨(Np.aR x.sum).toArray⟩ _ [] w7 Ab.out (jT.nil _ _ _) (λn hn=>by cases hn) (by have:=HA.out;have:=Hs.out;rw[List.length_append];omega) (by have:=jP.out;omega) (by simp) (by omega) DP.out (by omega)).mono ?_;rintro e w8 ⟨rfl,r8,KW,Lr⟩;have ik:Below Y w7 w8:=Lr.below (bQ _) (λk h=>(Ab.out.row.2.2 k h).1) (by omega);have vt:=ik.size;have H8:Hid (Bld 198 Y Y r8 (gD f1 (g.take (k+1))) w8/\Below Y wo w8):=jq ⟨by rw[HT.out];simpa using KW,eO.out.trans ik⟩;have OJ:Hid ((gD f1 (g.take (k+1))).length<=202000+4000 * (k+1)):=jq (by
      rw[HT.out,List.length_append,List.length_append]
      have:=HA.out
      have:=Hs.out
      have:=AS (s:=Np.aR x.sum) (ns:=[]) (by have:=sU HX.out.2.2.2.2.2.2;omega) (by simp) (λn hn=>by cases hn)
      omega)
     clear KW Lr ik;go_wp2_with fail;go_roundw
     case rel=>exact⟨k+1,r8,by omega,by go_num,by omega,jq H8.out.1,jq H8.out.2,OJ⟩
     case measure=>simp[intOf] <;> omega
    ·have fL:Hid (g.take k=g):=jq (kQ (by rw[jO.out];omega));rw[fL.out] at HL;go_wp2_with fail;refine (NR Y Y _ wr HL.out.read).mono ?_;rw[qx.out];rintro e w9 ⟨rfl,_,gF⟩;have gN:=jq (HC.out.trans (gF.mono (by omega)));clear gF;go_wp2_with fail;go_ret;exact⟨rfl,gN.out⟩
theorem JR:∀ args w,(callFunc 128 args).run prog w = .ok (.enter 128 args) w:=enters_of func128 (by kernel_rfl) rfl
theorem Sb:∀ args w,(callFunc 131 args).run prog w = .ok (.enter 131 args) w:=enters_of func131 (by kernel_rfl) rfl
theorem ZO(B b:Nat)(r:Option Nat)(l:List UInt8)(s:ByteArray)(w:World)(h:Bld 198 B b r l w)(hl:l.length<=10000000)(hs:s.size<=100000)(gj:B<=w.heap.size) :
 Calls prog 128 #[.string s,.pointer (some ⟨b,0,none⟩)] w (vY 198 B b r (l++Np.bN [s.data.toList]) (.tuple #[]) w):=by
 have H:=jq h;have cD:s.data.toList.length=s.size:=aU s;have jP:=jq cD;clear h cD;go_enter func128,ntmps128;go_wp2_with fail;refine (G3 uy B b r _ s _ H.out (by omega) (by omega) gj).mono ?_;rintro e w1 ⟨rfl,r1,az,bi⟩;have aq:=jq az;have eB:=jq bi;have rB:=bi.size;clear az bi;go_wp2_with fail;refine (G2 uy B b r1 _ 47 47 rfl _ aq.out (by have:=jP.out;simp;omega) (by omega)).mono ?_;rintro e w2 ⟨rfl,r2,ac,gX⟩;have aj:=jq ac;have iE:=jq (eB.out.trans gX);clear ac gX;go_wp2_with fail;go_end0;exact⟨rfl,r2,by have:=aj.out;simpa [Np.bN] using this,iE.out⟩
def TxK(Y Z E n:Nat)(l:List UInt8)(w:World):Prop:=l.length<=n/\Z<w.heap.size/\Y<Z/\(E<w.heap.size/\E≠Y)/\w.cell? ⟨Z,0,none⟩=some (.func (.func 128) #[] #[.pointer (some ⟨Y,0,none⟩)])/\∃ r,Bld 198 Y Y r l w/\r≠some Z/\r≠some E
theorem TxK.word{Y Z E n:Nat}{l:List UInt8}{w:World}(h:TxK Y Z E n l w):w.cell? ⟨Z,0,none⟩=some (.func (.func 128) #[] #[.pointer (some ⟨Y,0,none⟩)]):=h.2.2.2.2.1
theorem TxK.keep{Y Z E n:Nat}{l:List UInt8}{w w':World}(h:TxK Y Z E n l w)(hb:Below w.heap.size w w'):TxK Y Z E n l w':=by
 obtain⟨h1,h2,h3,h7,h4,r,h5,h6⟩:=h;exact⟨h1,lQ h2 hb.size,h3,⟨lQ h7.1 hb.size,h7.2⟩,(hb.cell (p:=⟨Z,0,none⟩) h2).trans h4,r,h5.keep hb,h6⟩
theorem TxK.more{Y Z E n m:Nat}{l:List UInt8}{w:World}(h:TxK Y Z E n l w)(hn:n<=m):TxK Y Z E m l w:=⟨yQ h.1 hn,h.2⟩
theorem TxK.fresh{Y Z E n:Nat}{l:List UInt8}{w w':World}(h:TxK Y Z E n l w)(hb:Below w.heap.size w w')(hz:w.heap.size<w'.heap.size):TxK Y Z w.heap.size n l w':=by
 obtain⟨h1,h2,h3,h7,h4,r,h5,h6,_⟩:=h;exact⟨h1,lQ h2 hb.size,h3,⟨hz,by omega⟩,(hb.cell (p:=⟨Z,0,none⟩) h2).trans h4,r,h5.keep hb,h6,λe=>by have:=(h5.row.2.2 _ e).2;omega⟩
theorem TxK.back{Y Z E n:Nat}{l:List UInt8}{w:World}(h:TxK Y Z E n l w):TxK Y Z Z n l w:=by
 obtain⟨h1,h2,h3,h7,h4,r,h5,h6,_⟩:=h;exact⟨h1,h2,h3,⟨h2,by omega⟩,h4,r,h5,h6,h6⟩
theorem TxK.step{Y Z E n m:Nat}{l l':List UInt8}{w w':World}(h:TxK Y Z E n l w)(hl:l'.length<=m){r:Option Nat}(hr:Bld 198 Y Y r l w)(hz:r≠some Z)(he:r≠some E){r':Option Nat}(hb:Bld 198 Y Y r' l' w')(hs:BS Y r w r' w'):TxK Y Z E m l' w'/\w'.heap[E]?=w.heap[E]?/\Below Y w w':=by
 obtain⟨h1,h2,h3,h7,h4,_⟩:=h;exact⟨⟨hl,lQ h2 hs.size,h3,⟨lQ h7.1 hs.size,h7.2⟩,(hs.cell h2 (by omega) hz 0).trans h4,r',hb,hs.free h2 hz,hs.free h7.1 he⟩,hs.keep E h7.1 h7.2 he,hs.below (bQ _) (λk hk=>(hr.row.2.2 k hk).1) (by have:=hr.row.2.1;omega)⟩
theorem zF(Y Z E n:Nat)(l:List UInt8)(s:ByteArray)(w:World)(h:TxK Y Z E n l w)(hn:n<=10000000)(hs:s.data.toList.length<=1000) :
 Calls prog 128 #[.string s,.pointer (some ⟨Y,0,none⟩)] w λe w'=>e = .returned (.tuple #[])/\TxK Y Z E (n+1001) (l++Np.bN [s.data.toList]) w'/\w'.heap[E]?=w.heap[E]?/\Below Y w w':=by
 have h0:=h;obtain⟨h1,h2,h3,h7,h4,r,h5,h6,h8⟩:=h;refine (ZO Y Y r l s w h5 (by omega) (by rw[<-aU];omega) (by omega)).mono λe w' ⟨he,r',hb',hs'⟩=>⟨he,h0.step (by rw[List.length_append,Np.uD,List.length_append,List.length_cons];simp only[Np.bN,List.flatMap_nil,List.length_nil];omega) h5 h6 h8 hb' hs'⟩
theorem qj(Y Z E n:Nat)(l:List UInt8)(k:Int)(h0:0<=k)(h1:k<=9223372036854775807)(w:World)(h:TxK Y Z E n l w)(hn:n<=10000000)(hP:fx w) :
 Calls prog 131 #[.int .i64 k,.pointer (some ⟨Z,0,none⟩)] w λe w'=>e = .returned (.tuple #[])/\TxK Y Z E (n+25) (l++Np.bN [Np.aR k]) w'/\w'.heap[E]?=w.heap[E]?/\Below Y w w':=by
 have H:=jq h;have hz:Z<w.heap.size:=h.2.1;have hY:Y<w.heap.size:=Nat.lt_trans h.2.2.1 hz;have hE:Hid (E<w.heap.size):=jq h.2.2.2.1.1;have hc:w.cell? ⟨Z,0,none⟩=some (.func (.func 128) #[] #[.pointer (some ⟨Y,0,none⟩)]):=h.word;have Fi:∀ g:bq w,g.w.cell? ⟨Z,0,none⟩=some (.func (.func 128) #[] #[.pointer (some ⟨Y,0,none⟩)]):=λg=>(g.cell ⟨Z,0,none⟩ hz).trans hc;have HI:Hid (∀ g:bq w,Calls prog 132 #[.int .i64 k] g.w λe w'=>e = .returned (aB (Np.aR k))/\Below g.w.heap.size g.w w'):=jq (λg=>L9 k h0 h1 g.w (hP.keep g.below));have HD:Hid ((Np.aR k).length<=20):=jq (sU (by omega));have eg:=JR;clear h hP;go_enter func131,ntmps131;go_wp2_with fail;refine Ov 3 (by kernel_rfl) (by kernel_rfl) ?_;simp only[List.take_succ_cons,List.take_zero,List.drop_succ_cons,List.drop_zero]
 repeat (go_big_quiet_step (fail))
 go_big_quiet_step ((go_at_call 132;exact Calls.grow_of (HI.out _)))
 repeat (go_big_quiet_step (fail))
 refine wpQuiet_nil ?_;rintro _ ⟨g,rfl⟩;have HG:=jq (H.out.keep g.below);have Dl:=jq g.below;obtain⟨w1,ah⟩:∃ w1,g.w=w1:=⟨_,rfl⟩;rw[ah] at HG Dl |-;clear Fi ah hc;go_wp2_with fail;refine (zF Y Z E n l ⟨(Np.aR k).toArray⟩ w1 HG.out (by omega) (by have:=HD.out;simp;omega)).mono ?_;rintro e w2 ⟨rfl,ht,hx,hb⟩;have HT:Hid (TxK Y Z E (n+25) (l++Np.bN [Np.aR k]) w2):=jq ⟨by have:=H.out.1;have:=HD.out;simp[Np.bN];omega,by simpa using ht.2⟩;have HB:=jq ((Dl.out.mono (by omega)).trans hb);have HX:=jq (hx.trans (Dl.out.block E hE.out));clear ht hb hx;go_wp2_with fail;go_end0;exact⟨rfl,HT.out,HX.out,HB.out⟩
theorem QU{f:List (List UInt8)}{d:List Np.Datum}{k:Nat}{x:Np.Datum}(hx:d[k]?=some x):gC f (d.take k)++Np.bN [x.text]++Np.bN [Np.aR x.n]++Np.bN [Np.aR x.m]=gC f (d.take (k+1)):=by
 rw[Jh hx];simp[Np.bN]
theorem QV{f:List (List UInt8)}{d:List Np.Sig}{k:Nat}{x:Np.Sig}(hx:d[k]?=some x):gD f (d.take k)++Np.bN [x.zone]++Np.bN [Np.aR x.key]++Np.bN [Np.aR x.alg]++Np.bN [Np.aR x.frm]++Np.bN [Np.aR x.til]++Np.bN [Np.aR x.sum]=gD f (d.take (k+1)):=by
 rw[Ji hx];simp[Np.bN]
theorem Va(s:ByteArray)(ty life:Int)(dv sv:Value)(d:List Np.Datum)(g:List Np.Sig)(w:World)(hP:fx w)(hK:KeyS ⟨⟨s.data.toList,ty,life,d⟩,g⟩)(hd:SlR bn 3 w w.heap.size dv d)(hg:SlR dj 6 w w.heap.size sv g) :
 Calls prog 59 #[.agg #[.string s,.int .i64 ty,.int .i64 life,dv,sv]] w λe w'=>e = .returned (aB (Np.dC ⟨⟨s.data.toList,ty,life,d⟩,g⟩))/\Below w.heap.size w w':=by
 have HK:=jq hK;have HD:=jq hd;have HG:=jq hg;have HP:=jq hP;have Bk:=hP.lt;have mV:Hid (∀ f,f = [s.data.toList,Np.aR ty,Np.aR life,Np.aR d.length]->gD (f++d.flatMap Np.oh) g=Np.dC ⟨⟨s.data.toList,ty,life,d⟩,g⟩):=jq (λf hf=>by subst hf;unfold gD Np.dC Np.uE;rw[List.append_assoc]);have qq:Hid ([]++Np.bN [s.data.toList]++Np.bN [Np.aR ty]++Np.bN [Np.aR life]++Np.bN [Np.aR d.length]=gC [s.data.toList,Np.aR ty,Np.aR life,Np.aR d.length] []):=jq (by simp[gC,Np.bN]);have qX:d.length<=100:=hK.few;have yu:g.length<=100:=hK.fewS;obtain⟨A1,c1,rfl,_,_⟩:=al hd;obtain⟨A2,c2,rfl,_,_⟩:=al hg;obtain⟨n1,bl⟩:∃ n,d.length=n:=⟨_,rfl⟩;obtain⟨n2,bP⟩:∃ n,g.length=n:=⟨_,rfl⟩;rw[bl] at HD mV qq qX |-;rw[bP] at HG yu |-;have jj:=jq bl;have jO:=jq bP;clear bl bP hd hg hK hP;obtain⟨f0,jZ⟩:∃ f0,[s.data.toList,Np.aR ty,Np.aR life,Np.aR n1]=f0:=⟨_,rfl⟩;have lB:=jq (mV.out f0 jZ.symm);rw[jZ] at qq;clear jZ mV;obtain⟨X,hX⟩:∃ X,w.heap.size=X:=⟨_,rfl⟩;obtain⟨Y,hY⟩:∃ Y,X+1=Y:=⟨_,rfl⟩;obtain⟨Z,hZ⟩:∃ Z,Y+1=Z:=⟨_,rfl⟩;obtain⟨W0,cH⟩:∃ W0,w.alloc (.cells #[.string s,.int .i64 ty,.int .i64 life,.slice A1 n1 c1,.slice A2 n2 c2] 42)=W0:=⟨_,rfl⟩;have eM:W0.heap.size=Y:=by rw[<-cH,<-hY,<-hX];simp
 obtain⟨W1,ap⟩:∃ W1,W0.alloc (.cells #[.pointer none,.slice none 0 0] 198)=W1:=⟨_,rfl⟩;have cn:Below X w W0:=by rw[<-cH];exact (vQ _ _).alloc (Nat.le_of_eq hX.symm) _
 have az:Below Y W0 W1:=by rw[<-ap];exact (vQ _ _).alloc (Nat.le_of_eq eM.symm) _
 have bj:W1.heap.size=Z:=by rw[<-ap,<-hZ,<-eM];simp
 have Ko:Bld 198 Y Y none [] W1:=by rw[<-ap,<-eM];exact Bld.fresh _ _
 obtain⟨W2,qP⟩:∃ W2,W1.alloc (.cells #[.func (.func 128) #[] #[.pointer (some ⟨Y,0,none⟩)]] 204)=W2:=⟨_,rfl⟩;have ac:Below Z W1 W2:=by rw[<-qP];exact (vQ _ _).alloc (Nat.le_of_eq bj.symm) _
 have aJ:Z<W2.heap.size:=by rw[<-qP,<-bj];simp
 have zf:W2.cell? ⟨Z,0,none⟩=some (.func (.func 128) #[] #[.pointer (some ⟨Y,0,none⟩)]):=by rw[<-qP,<-bj];simp[go_sem]
 have gw:Hid (TxK Y Z Z 0 [] W2):=jq ⟨by simp,aJ,by omega,⟨aJ,by omega⟩,zf,none,Ko.keep (ac.mono (by omega)),by simp,by simp⟩;have qQ:Below Y W0 W2:=az.trans (ac.mono (by omega));have k0:W2.cell? ⟨X,0,none⟩=some (.string s):=(cl qQ (by omega)).trans (by rw[<-cH,<-hX];simp[go_sem]);have k1:W2.cell? ⟨X,1,none⟩=some (.int .i64 ty):=(cl qQ (by omega)).trans (by rw[<-cH,<-hX];simp[go_sem]);have k2:W2.cell? ⟨X,2,none⟩=some (.int .i64 life):=(cl qQ (by omega)).trans (by rw[<-cH,<-hX];simp[go_sem]);have k3:W2.cell? ⟨X,3,none⟩=some (.slice A1 n1 c1):=(cl qQ (by omega)).trans (by rw[<-cH,<-hX];simp[go_sem]);have k4:W2.cell? ⟨X,4,none⟩=some (.slice A2 n2 c2):=(cl qQ (by omega)).trans (by rw[<-cH,<-hX];simp[go_sem]);have mY:Hid (fx W2):=jq (HP.out.keepAt (cn.trans (qQ.mono (by omega))) (by omega));have aj:Hid (Below X w W2):=jq (cn.trans (qQ.mono (by omega)));have aL:Hid (s.data.toList.length<=1000):=jq HK.out.name;have di:Hid (0<=ty/\ty<=1000000000):=jq HK.out.type;have Ae:Hid (0<=life/\life<=1000000000):=jq HK.out.life;have eg1:=JR;have eg2:=Sb;have ll:1<Y:=by omega
 have hYX:X<Y:=by omega
 have hZY:Y<Z:=by omega
 clear cn az ac qQ Ko;rw[hX] at HD HG |-;go_enter func59,ntmps59;go_wp2_with fail;clear cH ap qP hX eM bj hY hZ;refine (zF Y Z Z 0 [] s W2 gw.out (by omega) aL.out).mono ?_;rintro e W3 ⟨rfl,ht,hx,hb⟩;have nf:=jq ht;have ar:=jq (aj.out.trans (hb.mono (by omega)));have qz:=jq (mY.out.keepAt hb ll);replace zf:=ht.word;have el:Z<W3.heap.size:=ht.2.1;replace k1:=(cl hb (by omega)).trans k1;replace k2:=(cl hb (by omega)).trans k2;replace k3:=(cl hb (by omega)).trans k3;replace k4:=(cl hb (by omega)).trans k4;clear ht hx hb k0;go_wp2_with fail;refine (qj Y Z Z _ _ ty di.out.1 (by have:=di.out.2;omega) W3 nf.out (by omega) qz.out).mono ?_;rintro e W4 ⟨rfl,ht,hx,hb⟩;have xa:=jq ht;have ba:=jq (ar.out.trans (hb.mono (by omega)));have lD:=jq (qz.out.keepAt hb ll);replace zf:=ht.word;have em:Z<W4.heap.size:=ht.2.1;replace k2:=(cl hb (by omega)).trans k2;replace k3:=(cl hb (by omega)).trans k3;replace k4:=(cl hb (by omega)).trans k4;clear ht hx hb k1;go_wp2_with fail;refine (qj Y Z Z _ _ life Ae.out.1 (by have:=Ae.out.2;omega) W4 xa.out (by omega) lD.out).mono ?_;rintro e W5 ⟨rfl,ht,hx,hb⟩;have xb:=jq ht;have cx:=jq (ba.out.trans (hb.mono (by omega)));have lE:=jq (lD.out.keepAt hb ll);replace zf:=ht.word;have iX:Z<W5.heap.size:=ht.2.1;replace k3:=(cl hb (by omega)).trans k3;replace k4:=(cl hb (by omega)).trans k4;clear ht hx hb k2;go_wp2_with fail;refine (qj Y Z Z _ _ (n1:Int) (by omega) (by omega) W5 xb.out (by omega) lE.out).mono ?_;rintro e W6 ⟨rfl,ht,hx,hb⟩;have D7:=jq ht;have dg:=jq (cx.out.trans (hb.mono (by omega)));have pg:=jq (lE.out.keepAt hb ll);replace zf:=ht.word;have gm:Z<W6.heap.size:=ht.2.1;replace k3:=(cl hb (by omega)).trans k3;replace k4:=(cl hb (by omega)).trans k4;clear ht hx hb;go_wp2_with fail;have ur:Hid (TxK Y Z Z 2000 (gC f0 []) W6):=jq (by have h:=D7.out;rw[qq.out] at h;exact h.more (by omega));clear zf;go_loopw [37] (λi wr=>∃ k:Nat,k<=n1/\i = .int .i64 k/\Z<wr.heap.size/\Hid (TxK Y Z Z (2000 * (k+1)) (gC f0 (d.take k)) wr)/\Hid (Below Y W6 wr)) (λi _=>n1 - (intOf i).toNat)
 case atStart=>exact⟨0,jQ _,rfl,gm,by simpa using ur,jq (vQ _ _)⟩
 case round=>
  obtain⟨k,hk,rfl,Te,HT,bD⟩:=hrel;have HB:=jq (dg.out.trans (bD.out.mono (by omega)));have IE:=jq (pg.out.keepAt bD.out ll);have q3:=(cl bD.out (by omega)).trans k3;have q4:=(cl bD.out (by omega)).trans k4;clear k3 k4;by_cases aa:k<n1
  ·obtain⟨x,ab⟩:∃ x,d[k]?=some x:=⟨_,aQ (by rw[jj.out];exact aa)⟩;obtain⟨b,o,c',t,hA,bJ,_,ht,tD,g0,g1,g2⟩:=AR (HD.out.keep de HB.out) ab;simp only[Value.slice.injEq] at hA;obtain⟨rfl,-,rfl⟩:=hA;have HX:=jq (HK.out.data x (gQ ab));have DM:=jq (QU (f:=f0) ab);have oa:=jq ht;have fL:Hid (t.data.toList.length<=1000):=jq (by rw[ht];exact HX.out.1);clear ab ht tD;have bO:(0:Int)<=(k:Int):=by omega
   have bM:(k:Int)<(n1:Int):=by omega
   obtain⟨E,hE⟩:∃ E,wr.heap.size=E:=⟨_,rfl⟩;obtain⟨w2,ai⟩:∃ w2,wr.alloc (.cells #[.string t,.int .i64 x.n,.int .i64 x.m] 128)=w2:=⟨_,rfl⟩;have ac:Below wr.heap.size wr w2:=by rw[<-ai];exact (vQ _ _).alloc (bQ _) _
   have aJ:wr.heap.size<w2.heap.size:=by rw[<-ai];simp
   have p0:w2.cell? ⟨E,0,none⟩=some (.string t):=by rw[<-ai,<-hE];simp[go_sem]
   have p1:w2.cell? ⟨E,1,none⟩=some (.int .i64 x.n):=by rw[<-ai,<-hE];simp[go_sem]
   have p2:w2.cell? ⟨E,2,none⟩=some (.int .i64 x.m):=by rw[<-ai,<-hE];simp[go_sem]
   have gw:Hid (TxK Y Z E (2000 * (k+1)) (gC f0 (d.take k)) w2):=jq (by rw[<-hE];exact HT.out.fresh ac aJ);have aj:Hid (Below Y W6 w2):=jq (bD.out.trans (ac.mono (by omega)));have mY:=jq (IE.out.keep ac);have zf:=gw.out.word;have B2:Z<w2.heap.size:=by omega
   clear ac aJ;go_wp2_with fail;clear ai q3 q4 hE;refine (zF Y Z E _ _ t w2 gw.out (by omega) fL.out).mono ?_;rintro e w3 ⟨rfl,ht,hx,hb⟩;have nf:=jq ht;have ar:=jq (aj.out.trans hb);have qz:=jq (mY.out.keepAt hb ll);replace zf:=ht.word;have el:Z<w3.heap.size:=ht.2.1;replace p1:=(iQ (a:=⟨E,1,none⟩) hx).trans p1;replace p2:=(iQ (a:=⟨E,2,none⟩) hx).trans p2;clear ht hx hb p0 B2;go_wp2_with fail;refine (qj Y Z E _ _ x.n HX.out.2.1.1 (by have:=HX.out.2.1.2;omega) w3 nf.out (by omega) qz.out).mono ?_;rintro e w4 ⟨rfl,ht,hx,hb⟩;have xa:=jq ht;have ba:=jq (ar.out.trans hb);have lD:=jq (qz.out.keepAt hb ll);replace zf:=ht.word;have em:Z<w4.heap.size:=ht.2.1;replace p2:=(iQ (a:=⟨E,2,none⟩) hx).trans p2;clear ht hx hb p1;go_wp2_with fail;refine (qj Y Z E _ _ x.m HX.out.2.2.1 (by have:=HX.out.2.2.2;omega) w4 xa.out (by omega) lD.out).mono ?_;rintro e w5 ⟨rfl,ht,hx,hb⟩;have xb:=jq ht;have cx:=jq (ba.out.trans hb);have lE:=jq (lD.out.keepAt hb ll);replace zf:=ht.word;have iX:Z<w5.heap.size:=ht.2.1;clear ht hx hb p2;go_wp2_with fail;go_roundw
   case rel=>exact⟨k+1,by omega,by go_num,iX,jq (by have h:=xb.out.back;rw[oa.out,DM.out] at h;exact h.more (by omega)),cx⟩
   case measure=>simp[intOf] <;> omega
  ·have fL:Hid (d.take k=d):=jq (kQ (by rw[jj.out];omega));obtain⟨f1,mx⟩:∃ f1,f0++d.flatMap Np.oh=f1:=⟨_,rfl⟩;have qx:=jq lB.out;rw[mx] at qx;have Qw:Hid (TxK Y Z Z 202000 (gD f1 []) wr):=jq (by have h:=HT.out;rw[fL.out] at h;unfold gC at h;rw[mx] at h;have h2:=h.more (show 2000 * (k+1)<=202000 by omega);simpa [gD] using h2);clear mx HT;go_wp2_with fail;clear aa hk;obtain⟨wo,rfl⟩:∃ wo,wo=wr:=⟨_,rfl⟩;go_loopw [57] (λi wr=>∃ k:Nat,k<=n2/\i = .int .i64 k/\Z<wr.heap.size/\Hid (TxK Y Z Z (202000+4000 * k) (gD f1 (g.take k)) wr)/\Hid (Below Y wo wr)) (λi _=>n2 - (intOf i).toNat)
   case atStart=>exact⟨0,jQ _,rfl,Te,by simpa using Qw,jq (vQ _ _)⟩
   case round=>
    obtain⟨k,hk,rfl,hZs,HT,iA⟩:=hrel;have HC:=jq (HB.out.trans (iA.out.mono (by omega)));have P5:=jq (IE.out.keepAt iA.out ll);have s4:=(cl iA.out (by omega)).trans q4;clear q3 q4;by_cases aa:k<n2
    ·obtain⟨x,ab⟩:∃ x,g[k]?=some x:=⟨_,aQ (by rw[jO.out];exact aa)⟩;obtain⟨b,o,c',t,hA,bJ,ht,tD,g0,g1,g2,g3,g4,g5⟩:=mJ (HG.out.keep ep HC.out) ab;simp only[Value.slice.injEq] at hA;obtain⟨rfl,-,rfl⟩:=hA;have HX:=jq (HK.out.sigs x (gQ ab));have DM:=jq (QV (f:=f1) ab);have oa:=jq ht;have fL:Hid (t.data.toList.length<=1000):=jq (by rw[ht];exact HX.out.1);clear ab ht tD;have bO:(0:Int)<=(k:Int):=by omega
     have bM:(k:Int)<(n2:Int):=by omega
     obtain⟨E,hE⟩:∃ E,wr.heap.size=E:=⟨_,rfl⟩;obtain⟨w2,ai⟩:∃ w2,wr.alloc (.cells #[.string t,.int .i64 x.key,.int .i64 x.alg,.int .i64 x.frm,.int .i64 x.til,.int .u64 x.sum] 50)=w2:=⟨_,rfl⟩;have ac:Below wr.heap.size wr w2:=by rw[<-ai];exact (vQ _ _).alloc (bQ _) _
     have aJ:wr.heap.size<w2.heap.size:=by rw[<-ai];simp
     have p0:w2.cell? ⟨E,0,none⟩=some (.string t):=by rw[<-ai,<-hE];simp[go_sem]
     have p1:w2.cell? ⟨E,1,none⟩=some (.int .i64 x.key):=by rw[<-ai,<-hE];simp[go_sem]
     have p2:w2.cell? ⟨E,2,none⟩=some (.int .i64 x.alg):=by rw[<-ai,<-hE];simp[go_sem]
     have p3:w2.cell? ⟨E,3,none⟩=some (.int .i64 x.frm):=by rw[<-ai,<-hE];simp[go_sem]
     have p4:w2.cell? ⟨E,4,none⟩=some (.int .i64 x.til):=by rw[<-ai,<-hE];simp[go_sem]
     have p5:w2.cell? ⟨E,5,none⟩=some (.int .u64 x.sum):=by rw[<-ai,<-hE];simp[go_sem]
     have gw:Hid (TxK Y Z E (202000+4000 * k) (gD f1 (g.take k)) w2):=jq (by rw[<-hE];exact HT.out.fresh ac aJ);have aj:Hid (Below Y wo w2):=jq (iA.out.trans (ac.mono (by omega)));have mY:=jq (P5.out.keep ac);have zf:=gw.out.word;have B2:Z<w2.heap.size:=by omega
     clear ac aJ;go_wp2_with fail;clear ai s4 hE;refine (zF Y Z E _ _ t w2 gw.out (by omega) fL.out).mono ?_;rintro e w3 ⟨rfl,ht,hx,hb⟩;have nf:=jq ht;have ar:=jq (aj.out.trans hb);have qz:=jq (mY.out.keepAt hb ll);replace zf:=ht.word;have el:Z<w3.heap.size:=ht.2.1;replace p1:=(iQ (a:=⟨E,1,none⟩) hx).trans p1;replace p2:=(iQ (a:=⟨E,2,none⟩) hx).trans p2;replace p3:=(iQ (a:=⟨E,3,none⟩) hx).trans p3;replace p4:=(iQ (a:=⟨E,4,none⟩) hx).trans p4;replace p5:=(iQ (a:=⟨E,5,none⟩) hx).trans p5;clear ht hx hb p0 B2;go_wp2_with fail;refine (qj Y Z E _ _ x.key HX.out.2.1.1 (by have:=HX.out.2.1.2;omega) w3 nf.out (by omega) qz.out).mono ?_;rintro e w4 ⟨rfl,ht,hx,hb⟩;have xa:=jq ht;have ba:=jq (ar.out.trans hb);have lD:=jq (qz.out.keepAt hb ll);replace zf:=ht.word;have em:Z<w4.heap.size:=ht.2.1;replace p2:=(iQ (a:=⟨E,2,none⟩) hx).trans p2;replace p3:=(iQ (a:=⟨E,3,none⟩) hx).trans p3;replace p4:=(iQ (a:=⟨E,4,none⟩) hx).trans p4;replace p5:=(iQ (a:=⟨E,5,none⟩) hx).trans p5;clear ht hx hb p1;go_wp2_with fail;refine (qj Y Z E _ _ x.alg HX.out.2.2.1.1 (by have:=HX.out.2.2.1.2;omega) w4 xa.out (by omega) lD.out).mono ?_;rintro e w5 ⟨rfl,ht,hx,hb⟩;have xb:=jq ht;have cx:=jq (ba.out.trans hb);have lE:=jq (lD.out.keepAt hb ll);replace zf:=ht.word;have iX:Z<w5.heap.size:=ht.2.1;replace p3:=(iQ (a:=⟨E,3,none⟩) hx).trans p3;replace p4:=(iQ (a:=⟨E,4,none⟩) hx).trans p4;replace p5:=(iQ (a:=⟨E,5,none⟩) hx).trans p5;clear ht hx hb p2;go_wp2_with fail;refine (qj Y Z E _ _ x.frm HX.out.2.2.2.1.1 (by have:=HX.out.2.2.2.1.2;omega) w5 xb.out (by omega) lE.out).mono ?_;rintro e w6 ⟨rfl,ht,hx,hb⟩;have D7:=jq ht;have dg:=jq (cx.out.trans hb);have pg:=jq (lE.out.keepAt hb ll);replace zf:=ht.word;have gm:Z<w6.heap.size:=ht.2.1;replace p4:=(iQ (a:=⟨E,4,none⟩) hx).trans p4;replace p5:=(iQ (a:=⟨E,5,none⟩) hx).trans p5;clear ht hx hb p3;go_wp2_with fail;refine (qj Y Z E _ _ x.til HX.out.2.2.2.2.1.1 (by have:=HX.out.2.2.2.2.1.2;omega) w6 D7.out (by omega) pg.out).mono ?_;rintro e w7 ⟨rfl,ht,hx,hb⟩;have ur:=jq ht;have eO:=jq (dg.out.trans hb);have DP:=jq (pg.out.keepAt hb ll);replace zf:=ht.word;have oI:Z<w7.heap.size:=ht.2.1;replace p5:=(iQ (a:=⟨E,5,none⟩) hx).trans p5;clear ht hx hb p4;have VD:E<w7.heap.size:=ur.out.2.2.2.1.1;have Fi:∀ g:bq w7,g.w.cell? ⟨Z,0,none⟩=some (.func (.func 128) #[] #[.pointer (some ⟨Y,0,none⟩)]):=λg=>(g.cell ⟨Z,0,none⟩ oI).trans zf;have TE:∀ g:bq w7,g.w.cell? ⟨E,5,none⟩=some (.int .u64 x.sum):=λg=>(g.cell ⟨E,5,none⟩ VD).trans p5;have HI:Hid (∀ g:bq w7,Calls prog 133 #[.int .u64 x.sum,.int .i64 10] g.w λe w'=>e = .returned (aB (Np.aR x.sum))/\Below g.w.heap.size g.w w'):=jq (λg=>J1 x.sum HX.out.2.2.2.2.2.1 HX.out.2.2.2.2.2.2 g.w (DP.out.keep g.below));have jP:Hid ((Np.aR x.sum).length<=20):=jq (sU HX.out.2.2.2.2.2.2);go_wp2_with fail;refine Ov 4 (by kernel_rfl) (by kernel_rfl) ?_;simp only[List.take_succ_cons,List.take_zero,List.drop_succ_cons,List.drop_zero]
     repeat (go_big_quiet_step (fail))
     go_big_quiet_step ((go_at_call 133;exact Calls.grow_of (HI.out _)))
     repeat (go_big_quiet_step (fail))
     refine wpQuiet_nil ?_;rintro _ ⟨g,rfl⟩;have IR:=jq (ur.out.keep g.below);have iz:=jq (eO.out.trans (g.below.mono (show Y<=w7.heap.size by omega)));obtain⟨w8,ke⟩:∃ w1,g.w=w1:=⟨_,rfl⟩;rw[ke] at IR iz |-;clear Fi TE ke p5 zf;go_wp2_with fail;refine (zF Y Z E _ _ ⟨(Np.aR x.sum).toArray⟩ w8 IR.out (by omega) (by have:=jP.out;simp;omega)).mono ?_;rintro e w9 ⟨rfl,ht,hx,hb⟩;have Qs:=jq ht.back;have gN:=jq (iz.out.trans hb);have zd:=ht.2.1;clear ht hx hb;go_wp2_with fail;go_roundw
     case rel=>exact⟨k+1,by omega,by go_num,zd,jq (by have h:=Qs.out;rw[oa.out] at h;rw[<-DM.out];exact TxK.more (by simpa using h) (by omega)),gN⟩
     case measure=>simp[intOf] <;> omega
    ·have Qu:Hid (g.take k=g):=jq (kQ (by rw[jO.out];omega));obtain⟨-,-,-,-,-,r,bG,-,-⟩:=HT.out;rw[Qu.out,qx.out] at bG;have cX:=jq bG;clear bG;go_wp2_with fail;refine (NR Y Y _ wr cX.out.read).mono ?_;rintro e w9 ⟨rfl,_,gF⟩;have gN:=jq (HC.out.trans (gF.mono (by omega)));clear gF;go_wp2_with fail;go_ret;exact⟨rfl,gN.out⟩
end
end Go.Proofs.YtfnopgdcaanaiaaGreatDoor
