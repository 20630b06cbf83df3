/- No condition. -/
import Derived.Test.YtadhigmjilijcaaGreatDoorA22
import Derived.Test.YtadhigmjilijcaaGreatDoorA24
set_option linter.all false
set_option maxRecDepth 100000
set_option maxHeartbeats 8000000
namespace Go.Proofs.YtadhigmjilijcaaGreatDoor
open Go.Proofs.Tryz
section
open Go.RowKit Go.Shelf
attribute [local go_sem] Oper.semAt_some
theorem akZ(kv adv:Value)(r:Nat)(an n:ByteArray)(aty al at' dr t:Int)(w:World)(hk:∃ A n c,kv = .slice A n c)(ha:∃ A n c,adv = .slice A n c) :
 Calls prog 36 #[qf kv r an aty al adv at' dr,.agg #[.string n,.int .i64 t]] w λe w'=>e = .returned (.func (.func 90) #[] #[.pointer (some ⟨w.heap.size,0,none⟩),.pointer (some ⟨w.heap.size+1,0,none⟩)])/\
  w'=(w.alloc (.cells #[kv,.map (some r),.string an,.int .i64 aty,.int .i64 al,adv,.int .i64 at',.int .i64 dr] 80)).alloc (.cells #[.string n,.int .i64 t] 27):=by
 obtain⟨A,N,C,rfl⟩:=hk;obtain⟨aA,aN,aC,rfl⟩:=ha;unfold qf;go_enter func36,ntmps36;go_wp2_with fail;go_ret;exact⟨rfl,rfl⟩
theorem Xc:∀ args w,(callFunc 90 args).run prog w = .ok (.enter 90 args) w:=enters_of func90 (by kernel_rfl) rfl
theorem IA{α:Type}{R:aUJ α}{sz B:Nat}{w w':World}{v:Value}{xs:List α}(h:SlR R sz w B v xs)(he:w'.heap=w.heap)(hR:∀ e x,R w B e x->R w' B e x):SlR R sz w' B v xs:=by
 obtain⟨A,c,h1,h2,h3,h4⟩:=h;refine⟨A,c,h1,h2,h3,λi x hx=>?_⟩;obtain⟨b,o,e,h5,h6,h7,h8,h9⟩:=h4 i x hx;exact⟨b,o,e,h5,h6,h7,λj u hj=>(iQ (a:=⟨b,o+i * sz+j,none⟩) (by rw[he])).trans (h8 j u hj),hR e x h9⟩
theorem xI{α:Type}{R:aUJ α}{sz B:Nat}{w:World}{A:Option Addr}{n c:Nat}{xs:List α}(h:SlR R sz w B (.slice A n c) xs):xs.length=n:=by
 obtain⟨A',c',h1,_⟩:=h;simp only[Value.slice.injEq] at h1;exact h1.2.1.symm
theorem Qq{α:Type}{R:aUJ α}{sz B:Nat}{w:World}{A:Option Addr}{n c:Nat}{xs:List α}(h:SlR R sz w B (.slice A n c) xs):n<=140737488355328:=by
 obtain⟨A',c',h1,_,h2,_⟩:=h;simp only[Value.slice.injEq] at h1;omega
theorem aBZ{w:World}{B D:Nat}{A:Option Addr}{n c:Nat}{xs:List Np.Signed}(h:SlR (qK B) 5 w D (.slice A n c) xs)(i:Nat)(x:Np.Signed)(hx:xs[i]?=some x):∃ b o e,A=some ⟨b,o,none⟩/\b<D/\eB w b (o+i * 5) e/\aB w B e x:=by
 obtain⟨A',c',h1,_,_,he⟩:=h;simp only[Value.slice.injEq] at h1;obtain⟨b,o,e,h2,h3,_,h5,h6⟩:=he i x hx;exact⟨b,o,e,h1.1.trans h2,h3,h5,h6⟩
def sj(W:World)(B:Nat)(v:List Value):Np.Found->Prop
 | .set s=>∃ e,aB W B e s/\v = [.int .i64 0]++e ++ [.string ⟨#[]⟩,.int .i64 0]
 | .miss n t=>∃ qn:ByteArray,qn.data.toList=n/\qn.size<=140737488355328/\v = [.int .i64 1,.string ⟨#[]⟩,.int .i64 0,.int .i64 0,.slice none 0 0,.slice none 0 0,.string qn,.int .i64 t]
 | .loop=>v = [.int .i64 2,.string ⟨#[]⟩,.int .i64 0,.int .i64 0,.slice none 0 0,.slice none 0 0,.string ⟨#[]⟩,.int .i64 0]
abbrev FV:=List Value×Np.Found
def sh(LS:List Np.Found)(w:World)(B:Nat)(L:List FV):Prop:=L.map (·.2) <+: LS/\∀ x∈L,sj w B x.1 x.2
def LP(LS:List Np.Found)(w:World)(B:Nat)(L:List FV):Prop:=L.map (·.2)=LS/\∀ x∈L,sj w B x.1 x.2
theorem sh.add{LS:List Np.Found}{w:World}{B:Nat}{pre:List FV}{v:List Value}{f:Np.Found}{rest:List Np.Found}(h:sh LS w B pre)(hf:sj w B v f)(he:LS=pre.map (·.2)++f::rest):sh LS w B (pre ++ [(v,f)]):=by
 refine⟨?_,λx hx=>?_⟩
 ·rw[he,List.map_append];exact⟨rest,by simp⟩
 ·rcases List.mem_append.1 hx with hx | hx
  ·exact h.2 x hx
  ·rw[List.mem_singleton.1 hx];exact hf
theorem sh.fin{LS:List Np.Found}{w:World}{B:Nat}{pre:List FV}(h:sh LS w B pre)(he:LS=pre.map (·.2)):LP LS w B pre:=⟨he.symm,h.2⟩
def LkTo(known:List Np.Signed)(t:Int)(LS:List Np.Found)(cur:List UInt8)(k:Nat)(pre:List FV):Prop:=k<=8/\Np.ao cur=true/\LS=pre.map (·.2)++Np.f8 known t (8 - k) cur
def Vz(known:List Np.Signed)(t:Int)(LS:List Np.Found)(wk w0:World)(B bj bq r:Nat)(kvs:List ((List UInt8×Int)×Value))(cjo:Obj)(J:List FV->(Nat->Prop)->World->Prop)(S:Nat->Prop)(W:World)(v:Value)(wr:World):Prop:=
 ∃ (cur:ByteArray) (k:Nat) (pre:List FV) (S1:Nat->Prop),v = .int .i64 k/\LkTo known t LS cur.data.toList k pre/\sh LS wk B pre/\cur.size<=60/\wr.heap[bq]?=some (.cells [Value.string cur,.int .i64 t].toArray 27 (0,0))/\wr.heap[bj]?=some cjo/\J pre S1 wr/\(∀ i,S1 i->i<wr.heap.size)/\(∀ i,S1 i->S i\/W.heap.size<=i)/\W.heap.size<=wr.heap.size/\Below B w0 wr/\gk r kvs wr
theorem AF{w w':World}{B:Nat}{e:List Value}{x:Np.Signed}(h:aB w B e x)(he:w'.heap=w.heap):aB w' B e x:=by
 obtain⟨s,v,u,h1,h2,h3,h4,h5⟩:=h;exact⟨s,v,u,h1,h2,IA h3 he (λe x hr=>hr),IA h4 he (λe x hr=>hr),h5⟩
theorem AL{α:Type}{R:aUJ α}{sz B:Nat}{w w':World}{v:Value}{xs:List α}(h:SlR R sz w' B v xs)(hb:Below B w w')(hR:∀ e x,R w' B e x->R w B e x):SlR R sz w B v xs:=by
 obtain⟨A,c,h1,h2,h3,h4⟩:=h;refine⟨A,c,h1,h2,h3,λi x hx=>?_⟩;obtain⟨b,o,e,h5,h6,h7,h8,h9⟩:=h4 i x hx;exact⟨b,o,e,h5,h6,h7,λj u hj=>(hb.cell (p:=⟨b,o+i * sz+j,none⟩) h6).symm.trans (h8 j u hj),hR e x h9⟩
theorem Is{w w':World}{B:Nat}{e:List Value}{x:Np.Signed}(h:aB w' B e x)(hb:Below B w w'):aB w B e x:=by
 obtain⟨s,v,u,h1,h2,h3,h4,h5⟩:=h;exact⟨s,v,u,h1,h2,AL h3 hb (λe x hr=>hr),AL h4 hb (λe x hr=>hr),h5⟩
theorem VT{known:List Np.Signed}(kW:∀ x∈known,Np.bo x.set=true){n:List UInt8}{t:Int}{a:Np.Signed}(h:Np.n9 known n t=some a):∃ d r,a.set.data=d::r/\Np.ao d.text=true/\Np.gY a.set=d.text:=by
 unfold Np.n9 at h;split at h
 ·cases h
 ·unfold Np.eu at h;have hm:=List.mem_of_find?_eq_some h;have hp:=List.find?_some h;simp only[Bool.and_eq_true,Qa] at hp;obtain⟨_,_,_,_,_,h2,_,h3⟩:=Np.vv (kW a hm)
  cases hd:a.set.data with
  | nil=>rw[hd] at h2;simp at h2
  | cons d r=>
   have h4:=Np.Cn h3 d (by rw[hd];simp);rw[hp.1.2] at h4;refine⟨d,r,rfl,?_,by rw[Np.gY,hd]⟩;simp only[Np.lE,show Np.dF 3=⟨1,0,0,0,0,false,true,false⟩ from rfl,Bool.and_eq_true,Np.vu] at h4;have h5:=h4.2;rw[QbQ trivial,Bool.and_eq_true] at h5;exact h5.1
theorem akJ(kv adv:Value)(known:List Np.Signed)(gG:known.length<=1000)(kW:∀ x∈known,Np.bo x.set=true)(r:Nat)(kvs:List ((List UInt8×Int)×Value))(an n:ByteArray)(cE:Np.ao n.data.toList=true)(aty al at' dr t:Int)(bj bq B:Nat)(w:World)(hR:bL w B)(hk:SlR aB 5 w B kv known)(ha:∃ A n c,adv = .slice A n c)(hr:r<w.heap.size)(ZC:r≠bq)(hm:gk r kvs w)(hc:jd known w B kvs)(hBj:B<=bj)(X9:B<=bq)(hne:bj≠bq)
 (cj:w.heap[bj]?=some (.cells [kv,.map (some r),.string an,.int .i64 aty,.int .i64 al,adv,.int .i64 at',.int .i64 dr].toArray 80 (0,0))) (cq:w.heap[bq]?=some (.cells [Value.string n,.int .i64 t].toArray 27 (0,0))) :
 Fh prog 90 (λy=>#[y,.pointer (some ⟨bj,0,none⟩),.pointer (some ⟨bq,0,none⟩)]) (λx:FV=>#[.agg x.1.toArray]) (sh (Np.f8 known t 8 n.data.toList) w B) (LP (Np.f8 known t 8 n.data.toList) w B) (λk=>k<B\/k=bj\/k=r) (λk=>k=bq) w:=by
 intro l J Jx S W hW CH hJ F0 hY hS F7 hS' h0;obtain⟨LS,sI⟩:=aRZ (Np.f8 known t 8 n.data.toList);rw[sI] at hY |-;have zE:=((CH.2 bq rfl).2).trans cq;have zD:=((hW.2 bj (.inr (.inl rfl))).2).trans cj;have mU:=(hW.2 r (.inr (.inr rfl))).2;have hrW:r<W.heap.size:=by have:=hW.1;omega
 have aYJ:bq<W.heap.size:=(eQ.1 zE).1;have aXY:bj<W.heap.size:=(eQ.1 zD).1;have Yz:¬ S bq:=λh=>F7 bq h rfl;have Yy:¬ S bj:=λh=>hS bj h (.inr (.inl rfl));have YA:¬ S r:=λh=>hS r h (.inr (.inr rfl));have SU:=jq sI;have eC:=jq cE;have xa:=nL cE;clear sI cE;refine callsIn_of_wp func90 rfl trivial ?_ rfl;simp only[ntmps90,List.size_toArray,List.length_cons,List.length_nil,Nat.reduceAdd,Nat.reduceSub,Array.replicate_succ,Array.replicate_zero,List.push_toArray,List.append_toArray,List.nil_append,List.cons_append];gi_wp2_with fail;obtain⟨A,N,C,rfl,_,_,_⟩:=aM hk;obtain⟨aA,aN,aC,rfl⟩:=ha;have iA:Below B ({ W with heap:=w.heap } : World) W:=⟨rfl,rfl,rfl,hW.1,λk hk=>(hW.2 k (.inl hk)).2⟩;have bU:=jq iA;have SW:Hid (gk r kvs W):=jq (hm.keep' mU);have tE:Hid (jd known ({ W with heap:=w.heap } : World) B kvs):=jq (λn t=>⟨(hc n t).1,λs hs=>by obtain⟨e,h1,h2⟩:=(hc n t).2 s hs;exact⟨e,h1,AF h2 rfl⟩⟩);have Kt:Hid (bL ({ W with heap:=w.heap } : World) B):=jq hR;have yf:Hid (SlR aB 5 ({ W with heap:=w.heap } : World) B (.slice A N C) known):=jq (IA hk rfl (λe x h=>AF h rfl));have lR:=jq kW;clear hm hc iA hR hk;gi_loopw [4] (λv wr=>Vz known t LS w ({ W with heap:=w.heap } : World) B bj bq r kvs (.cells [Value.slice A N C,.map (some r),.string an,.int .i64 aty,.int .i64 al,.slice aA aN aC,.int .i64 at',.int .i64 dr].toArray 80 (0,0)) J S W v wr) (λv _=>9 - (intOf v).toNat)
 case atStart=>
  exact⟨n,0,[],S,rfl,⟨by omega,eC.out,by rw[<-SU.out];rfl⟩,⟨by simp,λx hx=>by simp at hx⟩,xa,zE,zD,h0,hS',λi e=>.inl e,bQ _,bU.out,SW.out⟩
 case round=>
  obtain⟨cur,k,pre,S1,rfl,OY,fV,YP,sO,GK,qU,oy,aP,OW,bH,Db⟩:=hrel;obtain⟨ws,rfl⟩:=aRX wr;have tS:=jq OY;have qB:=jq fV;have ef:=jq sO;have Bv:=jq GK;have em:=jq bH;have lr:r<ws.heap.size:=by omega
  have lbq:bq<ws.heap.size:=by omega
  have lbj:bj<ws.heap.size:=by omega
  have j1:=ae [_,_,_,_,_,_,_,_] GK 1 _ rfl;have q0:=ae [_,_] sO 0 _ rfl;have q1:=ae [_,_] sO 1 _ rfl;have fi:=DS ws 77 44 underlying77 r kvs Db (cur.data.toList,t) _ (zeroValue44 ws);rw[DN] at fi;have js:=tE.out cur.data.toList t;have EJ:=jq Db;clear OY fV sO GK bH Db
  cases eV:Np.eu known cur.data.toList t with
  | some y=>
   obtain⟨e',cp,cP⟩:=js.2 y eV;have qE:=jq cP;obtain⟨ys,ydA,ydn,ydc,ygA,ygn,ygc,rfl,_,_,_,_,_,_⟩:=gZ cP;have mH:=jq eV;rw[cp,Option.getD_some,Option.isSome_some] at fi;clear js eV cp cP;have nU:Hid (LS=pre.map (·.2) ++ [.set y]):=jq (by
    rw[tS.out.2.2,Np.f8,mH.out])
   have mi:sj w B [.int .i64 0,.string ys,.int .i64 y.set.type,.int .i64 y.set.life,.slice ydA ydn ydc,.slice ygA ygn ygc,.string ⟨#[]⟩,.int .i64 0] (.set y):=⟨_,AF qE.out rfl,rfl⟩;have iC:=qB.out.add mi (rest:=[]) nU.out;have lS:=jq iC;obtain⟨w5,bc⟩:=aRZ (ws.alloc (.cells #[.string ys,.int .i64 y.set.type,.int .i64 y.set.life,.slice ydA ydn ydc,.slice ygA ygn ygc] 44));have aI:Below ws.heap.size ws w5:=by rw[<-bc];exact aj _ _
   have th:=aI.size;have Nf:=hJ _ _ _ _ qU (ItO.of_below aI);obtain⟨fn,tmps,assign,body,hy,mh⟩:=hY pre _ S1 w5 iC Nf (λi e=>by have:=oy i e;omega) (by omega);have na:Sem.run prog (Instr.yield l #[.agg #[.int .i64 0,.string ys,.int .i64 y.set.type,.int .i64 y.set.life,.slice ydA ydn ydc,.slice ygA ygn ygc,.string ⟨#[]⟩,.int .i64 0]]) w5 = .ok (.round l fn tmps assign body) w5:=hy;have p5:=bD (r:=[.string ys,.int .i64 y.set.type,.int .i64 y.set.life,.slice ydA ydn ydc,.slice ygA ygn ygc]) rfl bc;have s0:=p5 0 _ rfl;have s1:=p5 1 _ rfl;have s2:=p5 2 _ rfl;have s3:=p5 3 _ rfl;have s4:=p5 4 _ rfl;clear hy Nf iC mi aI p5;gi_wp2_with fail;clear bc;gi_wp2_with fail;refine⟨rfl,mh.mono ?_⟩;rintro e W3 ⟨S3,aZ,ez,gr,(⟨rfl,iy⟩ | ⟨rfl,iz⟩)⟩
   all_goals
    gi_wp2_with fail;refine bodyPost_ret (results_none rfl _ _ _) rfl ?_
   ·refine⟨⟨_,rfl⟩,.inl ⟨_,S3,lS.out.fin (by rw[nU.out,List.map_append];rfl),iy,λi h=>?_⟩⟩;rcases ez i h with h | h
    ·exact aP i h
    ·right;omega
   ·refine⟨⟨_,rfl⟩,.inr ⟨_,S3,lS.out,iz,λi h=>?_⟩⟩;rcases ez i h with h | h
    ·exact aP i h
    ·right;omega
  | none=>
   have mH:=jq eV;rw[js.1 eV,Option.getD_none,Option.isSome_none] at fi;have eW:=λj u hj=>ae [_,_,_,_,_,_,_,_] Bv.out j u hj;have j0:=eW 0 _ rfl;have j2:=eW 2 _ rfl;have j3:=eW 3 _ rfl;have j4:=eW 4 _ rfl;have j5:=eW 5 _ rfl;have j6:=eW 6 _ rfl;have j7:=eW 7 _ rfl;clear js eV eW;gi_wp2_with fail;obtain⟨w5,bc⟩:=aRZ (ws.alloc (.cells #[.string ⟨#[]⟩,.int .i64 0,.int .i64 0,.slice none 0 0,.slice none 0 0] 44));have aI:Below ws.heap.size ws w5:=by rw[<-bc];exact aj _ _
   have th:=aI.size;have FO:Below B ({ W with heap:=w.heap } : World) w5:=em.out.trans (aI.aSZ);rw[bc];clear bc fi j0 j1 j2 j3 j4 j5 j6 j7 q0 q1;refine⟨trivial,rfl,(callsIn_wide.2 (VS (.slice A N C) (.slice aA aN aC) known r kvs an cur aty al at' dr t w5 B (by omega) ⟨_,_,_,rfl⟩ ⟨_,_,_,rfl⟩ (by omega) (EJ.out.keep aI (by omega)) (tE.out.keep FO))).mono ?_⟩;rintro e w6 ⟨als,aa,ab,adA,adn,adc,agA,agn,agc,rfl,bh,NO⟩;have Ej:=jq NO;have aU:=jq (aI.trans (bh.mono th));have Eq:=jq (FO.trans (bh.aSZ));have rm:=bh.size;clear aI bh FO NO;obtain⟨O,hO⟩:=aRZ (Np.n9 known cur.data.toList t);rw[hO] at Ej |-;have HO:=jq hO;clear hO
   cases O with
   | none=>
    rw[Option.isSome_none];have EE:Hid (LS=pre.map (·.2)++Np.pc known cur.data.toList t):=jq (by
     rw[tS.out.2.2,Np.f8,mH.out];dsimp only;rw[HO.out])
    have KB:Hid (Np.ao cur.data.toList=true):=jq tS.out.2.1;obtain⟨w7,eF⟩:=aRZ (w6.alloc (.cells #[.string als,.int .i64 aa,.int .i64 ab,.slice adA adn adc,.slice agA agn agc] 44));have bm:Below w6.heap.size w6 w7:=by rw[<-eF];exact aj _ _
    have ti:=bm.size;have cL:=aRQ aU bm;have Bb:=aRQ Eq bm;have Sz:=jq ((cL.out.block bj lbj).trans Bv.out);have yo:=jq ((cL.out.block bq lbq).trans ef.out);have eW:=λj u hj=>ae [_,_,_,_,_,_,_,_] Sz.out j u hj;have j0:=eW 0 _ rfl;have j1:=eW 1 _ rfl;have j2:=eW 2 _ rfl;have j3:=eW 3 _ rfl;have j4:=eW 4 _ rfl;have j5:=eW 5 _ rfl;have j6:=eW 6 _ rfl;have j7:=eW 7 _ rfl;have q0:=ae [_,_] yo.out 0 _ rfl;have q1:=ae [_,_] yo.out 1 _ rfl;clear bm eW;gi_wp2_with fail;clear eF;gi_wp2_with fail;refine⟨trivial,rfl,(callsIn_wide.2 (aNZ (.slice A N C) (.slice aA aN aC) known gG lR.out r kvs an cur KB.out aty al at' dr t w7 B (by omega) ((Kt.out.keep Bb.out).more (by omega)) (yf.out.keep az Bb.out) ⟨_,_,_,rfl⟩ (by omega) (EJ.out.keep cL.out (by omega)) (tE.out.keep Bb.out))).mono ?_⟩;rintro e w9 ⟨lA,ln,lc,rfl,hrow,bM,fC⟩;have Hp:=bM.size;have cZ:=aRQ cL bM;have xR:=aRQ Bb bM;have Bu:Hid (∀ b o,lA=some ⟨b,o,none⟩->ws.heap.size<=b):=jq (λb o h=>by have:=fC b o h;omega);obtain⟨XS,Gc⟩:=aRZ (Np.rH known cur.data.toList t);rw[Gc] at hrow;have BT:=jq Gc;have nC:=xI hrow;have qD:=jq hrow;clear j0 j1 j2 j3 j4 j5 j6 j7 q0 q1 bM fC Gc hrow;by_cases rk:XS = []
    focus
     subst rk;obtain rfl:ln=0:=by simpa using nC.symm
     have JZ:=jq ((cZ.out.block bj lbj).trans Bv.out);have ER:=jq ((cZ.out.block bq lbq).trans ef.out);have eW:=λj u hj=>ae [_,_,_,_,_,_,_,_] JZ.out j u hj;have j0:=eW 0 _ rfl;have j1:=eW 1 _ rfl;have j2:=eW 2 _ rfl;have j3:=eW 3 _ rfl;have j4:=eW 4 _ rfl;have j5:=eW 5 _ rfl;have j6:=eW 6 _ rfl;have j7:=eW 7 _ rfl;have q0:=ae [_,_] ER.out 0 _ rfl;have q1:=ae [_,_] ER.out 1 _ rfl;clear nC eW Bu qD;gi_wp2_with fail;refine⟨trivial,rfl,(callsIn_wide.2 (aJX (.slice A N C) (.slice aA aN aC) known gG lR.out r an cur KB.out aty al at' dr t w9 B (by omega) ((Kt.out.keep xR.out).more (by omega)) (yf.out.keep az xR.out) ⟨_,_,_,rfl⟩)).mono ?_⟩;rintro e wa ⟨lA,ln,lc,rfl,hrow,mR,fC⟩;have Pg:=mR.size;replace cZ:=aRQ cZ mR;replace xR:=aRQ xR mR;have Bu:Hid (∀ b o,lA=some ⟨b,o,none⟩->ws.heap.size<=b):=jq (λb o h=>by have:=fC b o h;omega);obtain⟨YS,Gd⟩:=aRZ (Np.sB known cur.data.toList t);rw[Gd] at hrow;have jj:=jq Gd;have nC:=xI hrow;have qD:=jq hrow;have ET:=jq ((cZ.out.block bq lbq).trans ef.out);clear j0 j1 j2 j3 j4 j5 j6 j7 q0 q1 mR fC Gd hrow;by_cases Dv:YS = []
     focus
      subst Dv;obtain rfl:ln=0:=by simpa using nC.symm
      have q0:=ae [_,_] ET.out 0 _ rfl;have q1:=ae [_,_] ET.out 1 _ rfl;have nU:Hid (LS=pre.map (·.2) ++ [.miss cur.data.toList t]):=jq (by
       rw[EE.out,Np.pc,BT.out,jj.out];simp)
      have mi:sj w B [.int .i64 1,.string ⟨#[]⟩,.int .i64 0,.int .i64 0,.slice none 0 0,.slice none 0 0,.string cur,.int .i64 t] (.miss cur.data.toList t):=⟨cur,rfl,by omega,rfl⟩;have iC:=qB.out.add mi (rest:=[]) nU.out;have lS:=jq iC;have sH:=hJ _ _ _ _ qU (ItO.of_below cZ.out);obtain⟨fn,tmps,assign,body,hy,mh⟩:=hY pre _ S1 wa iC sH (λi e=>by have:=oy i e;omega) (by omega);have na:Sem.run prog (Instr.yield l #[.agg #[.int .i64 1,.string ⟨#[]⟩,.int .i64 0,.int .i64 0,.slice none 0 0,.slice none 0 0,.string cur,.int .i64 t]]) wa = .ok (.round l fn tmps assign body) wa:=hy;clear hy sH iC mi nC Bu qD;gi_wp2_with fail;refine⟨rfl,mh.mono ?_⟩;rintro e W3 ⟨S3,aZ,ez,gr,(⟨rfl,iy⟩ | ⟨rfl,iz⟩)⟩
      all_goals
       gi_wp2_with fail;refine bodyPost_ret (results_none rfl _ _ _) rfl ?_
      ·refine⟨⟨_,rfl⟩,.inl ⟨_,S3,lS.out.fin (by rw[nU.out,List.map_append];rfl),iy,λi h=>?_⟩⟩;rcases ez i h with h | h
       ·exact aP i h
       ·right;omega
      ·refine⟨⟨_,rfl⟩,.inr ⟨_,S3,lS.out,iz,λi h=>?_⟩⟩;rcases ez i h with h | h
       ·exact aP i h
       ·right;omega
     have EF:Hid (LS=pre.map (·.2)++YS.map .set):=jq (by
      rw[EE.out,Np.pc,BT.out,jj.out];simp[Dv])
     have Zh:0<ln:=by rw[<-nC];exact List.length_pos_iff.2 Dv
     obtain⟨w9,rfl⟩:=aRX wa;obtain⟨XS,rfl⟩:=aRX YS;clear jj ET JZ ER Dv
    rotate_left
    focus
     have EF:Hid (LS=pre.map (·.2)++XS.map .set):=jq (by
      rw[EE.out,Np.pc,BT.out];simp[rk])
     have Zh:0<ln:=by rw[<-nC];exact List.length_pos_iff.2 rk
     clear rk
    all_goals
     have a1X:((ln:Int) == 0)=false:=by simp only[beq_eq_false_iff_ne,ne_eq];omega
     have fo:=jq nC;have a2X:=Qq qD.out;have Yh:=hJ _ _ _ _ qU (ItO.of_below cZ.out);clear nC;gi_wp2_with fail;gi_loopw [69] (λi wr=>∃ (k9:Nat) (q:List FV) (S2:Nat->Prop),k9<=ln/\i = .int .i64 k9/\Hid (q.map (·.2)=pre.map (·.2)++(XS.take k9).map .set)/\Hid (sh LS w B q)/\J q S2 wr/\(∀ i,S2 i->i<wr.heap.size)/\(∀ i,S2 i->S1 i\/w9.heap.size<=i)/\w9.heap.size<=wr.heap.size/\Hid (∀ b,ws.heap.size<=b->b<w9.heap.size->wr.heap[b]?=w9.heap[b]?)) (λi _=>ln - (intOf i).toNat)
     case atStart=>exact⟨0,pre,S1,jQ _,rfl,jq (by simp),qB,Yh,λi e=>by have:=oy i e;omega,λi e=>.inl e,bQ _,jq (λb _ _=>rfl)⟩
     case round=>
      obtain⟨k9,q,S2,C0,rfl,vO,Kg,zf,uI,Dj,cr,Bx⟩:=hrel;obtain⟨wu,rfl⟩:=aRX wr;by_cases af:k9<ln
      ·obtain⟨y,gI⟩:∃ y,XS[k9]?=some y:=⟨_,aQ (by rw[fo.out];exact af)⟩;obtain⟨b,o,e',X7,dB,hce,pZ⟩:=aBZ qD.out k9 y gI;subst X7;obtain⟨s,dA,dn,dc,gA,gn,gc,rfl,_,_,_,_,_,_⟩:=gZ pZ;have cw:=Bx.out b (Bu.out b o rfl) dB;have f0:wu.cell? ⟨b,o+k9 * 5,none⟩=some (.string s):=(iQ (a:=⟨b,o+k9 * 5,none⟩) cw).trans (hce 0 _ rfl);have f1:wu.cell? ⟨b,o+k9 * 5+1,none⟩=some (.int .i64 y.set.type):=(iQ (a:=⟨b,o+k9 * 5+1,none⟩) cw).trans (hce 1 _ rfl);have f2:wu.cell? ⟨b,o+k9 * 5+2,none⟩=some (.int .i64 y.set.life):=(iQ (a:=⟨b,o+k9 * 5+2,none⟩) cw).trans (hce 2 _ rfl);have f3:wu.cell? ⟨b,o+k9 * 5+3,none⟩=some (.slice dA dn dc):=(iQ (a:=⟨b,o+k9 * 5+3,none⟩) cw).trans (hce 3 _ rfl);have f4:wu.cell? ⟨b,o+k9 * 5+4,none⟩=some (.slice gA gn gc):=(iQ (a:=⟨b,o+k9 * 5+4,none⟩) cw).trans (hce 4 _ rfl);have Ew:Hid (XS=XS.take k9++y::XS.drop (k9+1)):=jq (by
        obtain⟨hl,he⟩:=cQ.1 gI;rw[<-he,<-sQ hl,List.take_append_drop])
       have fe:Hid (XS.take (k9+1)=XS.take k9 ++ [y]):=jq (by
        obtain⟨hl,he⟩:=cQ.1 gI;rw[fQ hl,he])
       have mi:sj w B [.int .i64 0,.string s,.int .i64 y.set.type,.int .i64 y.set.life,.slice dA dn dc,.slice gA gn gc,.string ⟨#[]⟩,.int .i64 0] (.set y):=⟨_,AF (Is pZ xR.out) rfl,rfl⟩;have iC:=Kg.out.add mi (rest:=(XS.drop (k9+1)).map .set) (by
        rw[vO.out,EF.out,List.append_assoc];congr 1
        conv => lhs;rw[Ew.out]
        rw[List.map_append,List.map_cons])
       have lS:=jq iC;obtain⟨wv,Hj⟩:=aRZ (wu.alloc (.cells #[.string s,.int .i64 y.set.type,.int .i64 y.set.life,.slice dA dn dc,.slice gA gn gc] 44));have CL:Below wu.heap.size wu wv:=by rw[<-Hj];exact aj _ _
       have xw:=CL.size;have pv:=bD (r:=[.string s,.int .i64 y.set.type,.int .i64 y.set.life,.slice dA dn dc,.slice gA gn gc]) rfl Hj;have v0:=pv 0 _ rfl;have v1:=pv 1 _ rfl;have v2:=pv 2 _ rfl;have v3:=pv 3 _ rfl;have v4:=pv 4 _ rfl;have Ng:=hJ _ _ _ _ zf (ItO.of_below CL);obtain⟨fn,tmps,assign,body,hy,mh⟩:=hY q _ S2 wv iC Ng (λi e=>by have:=uI i e;omega) (by omega);have na:Sem.run prog (Instr.yield l #[.agg #[.int .i64 0,.string s,.int .i64 y.set.type,.int .i64 y.set.life,.slice dA dn dc,.slice gA gn gc,.string ⟨#[]⟩,.int .i64 0]]) wv = .ok (.round l fn tmps assign body) wv:=hy;have SL:Hid (∀ b,ws.heap.size<=b->b<w9.heap.size->wv.heap[b]?=w9.heap[b]?):=jq (λb h1 h2=>(CL.block b (by omega)).trans (Bx.out b h1 h2));have dS:(0:Int)<=(k9:Int):=by omega
       have dp:(k9:Int)<(ln:Int):=by omega
       clear hy Ng iC mi CL pv hce pZ gI cw Bx;gi_wp2_with fail;clear Hj f0 f1 f2 f3 f4;gi_wp2_with fail;refine⟨rfl,mh.mono ?_⟩;rintro e W3 ⟨S3,aZ,ez,gr,(⟨rfl,iy⟩ | ⟨rfl,iz⟩)⟩
       ·have nJ:=aZ.size;have iL:Hid (∀ b,ws.heap.size<=b->b<w9.heap.size->W3.heap[b]?=w9.heap[b]?):=jq (λb h1 h2=>(aZ.keep b (by omega) (λh=>by
         rcases Dj b h with h | h
         ·have:=oy b h;omega
         ·omega)).trans (SL.out b h1 h2))
        clear aZ na mh v0 v1 v2 v3 v4;gi_wp2_with fail;go_roundw
        case rel=>
         refine⟨k9+1,_,S3,by omega,by go_num,jq ?_,lS,iy,gr,λi h=>?_,by omega,iL⟩
         ·rw[List.map_append,vO.out,fe.out,List.map_append,List.append_assoc];rfl
         ·rcases ez i h with h | h
          ·exact Dj i h
          ·right;omega
        case measure=>simp[intOf]<;>omega
       ·have nJ:=aZ.size;clear aZ na mh v0 v1 v2 v3 v4;gi_wp2_with fail;refine bodyPost_ret (results_none rfl _ _ _) rfl ?_;refine⟨⟨_,rfl⟩,.inr ⟨_,S3,lS.out,iz,λi h=>?_⟩⟩;rcases ez i h with h | h
        ·rcases Dj i h with h | h
         ·exact aP i h
         ·right;omega
        ·right;omega
      ·have yw:Hid (XS.take k9=XS):=jq (kQ (by rw[fo.out];omega));clear Bx;gi_wp2_with fail;go_end0;refine⟨⟨_,rfl⟩,.inl ⟨q,Kg.out.fin (by rw[vO.out,EF.out,yw.out]),S2,zf,λi h=>?_⟩⟩;rcases Dj i h with h | h
       ·exact aP i h
       ·right;omega
   | some a=>
    rw[Option.isSome_some];have uR:=Ej.out a rfl;obtain⟨s',xdA,xdn,xdc,xgA,xgn,xgc,nA,_,_,_,_,_,_⟩:=gZ uR;simp only[List.cons.injEq,Value.string.injEq,Value.int.injEq,Value.slice.injEq,true_and,and_true] at nA;have BJ:=jq uR;have X5:∃ s:Np.Signed,s=a:=⟨a,rfl⟩;clear uR nA X5;by_cases h8:k=8
    ·have h8':((k:Int) == 8)=true:=by simp[h8]
     have nU:Hid (LS=pre.map (·.2) ++ [.loop]):=jq (by
      rw[tS.out.2.2,Np.f8,mH.out];dsimp only;rw[HO.out,h8];rfl)
     have mi:sj w B [.int .i64 2,.string ⟨#[]⟩,.int .i64 0,.int .i64 0,.slice none 0 0,.slice none 0 0,.string ⟨#[]⟩,.int .i64 0] .loop:=rfl;have iC:=qB.out.add mi (rest:=[]) nU.out;have lS:=jq iC;obtain⟨w7,eF⟩:=aRZ (w6.alloc (.cells #[.string als,.int .i64 aa,.int .i64 ab,.slice adA adn adc,.slice agA agn agc] 44));have bm:Below w6.heap.size w6 w7:=by rw[<-eF];exact aj _ _
     have ti:=bm.size;have sH:=hJ _ _ _ _ qU (ItO.of_below (aU.out.trans (bm.aSZ)));obtain⟨fn,tmps,assign,body,hy,mh⟩:=hY pre _ S1 w7 iC sH (λi e=>by have:=oy i e;omega) (by omega);have na:Sem.run prog (Instr.yield l #[.agg #[.int .i64 2,.string ⟨#[]⟩,.int .i64 0,.int .i64 0,.slice none 0 0,.slice none 0 0,.string ⟨#[]⟩,.int .i64 0]]) w7 = .ok (.round l fn tmps assign body) w7:=hy;clear hy sH iC mi bm;subst h8;gi_wp2_with fail;clear eF;gi_wp2_with fail;refine⟨rfl,mh.mono ?_⟩;rintro e W3 ⟨S3,aZ,ez,gr,(⟨rfl,iy⟩ | ⟨rfl,iz⟩)⟩
     all_goals
      gi_wp2_with fail;refine bodyPost_ret (results_none rfl _ _ _) rfl ?_
     ·refine⟨⟨_,rfl⟩,.inl ⟨_,S3,lS.out.fin (by rw[nU.out,List.map_append];rfl),iy,λi h=>?_⟩⟩;rcases ez i h with h | h
      ·exact aP i h
      ·right;omega
     ·refine⟨⟨_,rfl⟩,.inr ⟨_,S3,lS.out,iz,λi h=>?_⟩⟩;rcases ez i h with h | h
      ·exact aP i h
      ·right;omega
    ·have h8':((k:Int) == 8)=false:=by simp only[beq_eq_false_iff_ne,ne_eq];omega
     have EC:Hid (k+1<=8):=jq (by have:=tS.out.1;omega);obtain⟨d,rr,hdd,bZ,ju⟩:=VT kW HO.out;have Bp:=jq hdd;have gh:=jq bZ;have xZ:=jq ju;have nU:Hid (LS=pre.map (·.2) ++ .set a::Np.f8 known t (8 - (k+1)) (Np.gY a.set)):=jq (by
      rw[tS.out.2.2,Np.f8,mH.out];dsimp only;rw[HO.out];obtain⟨m,hm⟩:∃ m,8 - k=m+1:=⟨7 - k,by have:=tS.out.1;omega⟩;rw[hm,show 8 - (k+1)=m by omega])
     have uR:=Ej.out a rfl;have mi:sj w B [.int .i64 0,.string als,.int .i64 aa,.int .i64 ab,.slice adA adn adc,.slice agA agn agc,.string ⟨#[]⟩,.int .i64 0] (.set a):=⟨_,AF (Is uR Eq.out) rfl,rfl⟩;have iC:=qB.out.add mi nU.out;have lS:=jq iC;have u7:∃ v u,SlR bS 3 w6 B v a.set.data/\v = .slice adA adn adc/\u=Value.slice agA agn agc:=by
      obtain⟨s',v,u,_,_,h3,_,h5⟩:=uR;simp only[List.cons.injEq,and_true] at h5;exact⟨v,u,h3,h5.2.2.2.1.symm,h5.2.2.2.2.symm⟩
     obtain⟨_,_,u7,rfl,_⟩:=u7;obtain⟨xb,xo,xc,xt,O7,nI,hxc,xu,mz,x0,_,_⟩:=ug u7 (k:=0) (by rw[hdd];rfl);simp only[Value.slice.injEq] at O7;obtain⟨rfl,Ho,rfl⟩:=O7;have BU:=jq xu;have eO:w6.cell? ⟨xb,xo,none⟩=some (.string xt):=by simpa using x0
     have Vg:=jq eO;have aXK:(0:Int)<(adn:Int):=by rw[hdd] at Ho;simp at Ho;omega
     have ZW:xt.size<=60:=nL (by rw[xu];exact bZ);obtain⟨w7,eF⟩:=aRZ (w6.alloc (.cells #[.string als,.int .i64 aa,.int .i64 ab,.slice (some ⟨xb,xo,none⟩) adn adc,.slice agA agn agc] 44));have bm:Below w6.heap.size w6 w7:=by rw[<-eF];exact aj _ _
     have l7:w6.heap.size<w7.heap.size:=by rw[<-eF];simp
     have p7:=bD (r:=[.string als,.int .i64 aa,.int .i64 ab,.slice (some ⟨xb,xo,none⟩) adn adc,.slice agA agn agc]) rfl eF;have v0:=p7 0 _ rfl;have v1:=p7 1 _ rfl;have v2:=p7 2 _ rfl;have v3:=p7 3 _ rfl;have v4:=p7 4 _ rfl;have sH:=hJ _ _ _ _ qU (ItO.of_below (aU.out.trans (bm.aSZ)));obtain⟨fn,tmps,assign,body,hy,mh⟩:=hY pre _ S1 w7 iC sH (λi e=>by have:=oy i e;omega) (by omega);have na:Sem.run prog (Instr.yield l #[.agg #[.int .i64 0,.string als,.int .i64 aa,.int .i64 ab,.slice (some ⟨xb,xo,none⟩) adn adc,.slice agA agn agc,.string ⟨#[]⟩,.int .i64 0]]) w7 = .ok (.round l fn tmps assign body) w7:=hy;have nS:=jq bm;clear hdd bZ ju uR u7 xu x0 eO hy sH iC mi bm p7 Ho;gi_wp2_with fail;clear eF;gi_wp2_with fail;refine⟨rfl,mh.mono ?_⟩;rintro e W3 ⟨S3,aZ,ez,gr,(⟨rfl,iy⟩ | ⟨rfl,iz⟩)⟩
     ·have nJ:=aZ.size;have a7Z:=nS.out.size;have Nw:∀ i,S1 i->B<=i:=λi h=>by
       rcases aP i h with h | h
       ·have:=hS i h;simp only[not_or] at this;omega
       ·omega
      have Ny:¬ S1 bq:=λh=>by rcases aP _ h with h | h;exact Yz h;omega
      have Yp:¬ S1 bj:=λh=>by rcases aP _ h with h | h;exact Yy h;omega
      have Yq:∀ i,ws.heap.size<=i->¬ S1 i:=λi hi h=>by have:=oy i h;omega
      have Yv:¬ S3 bq:=λh=>by rcases ez _ h with h | h;exact Ny h;omega
      have fW:=(aZ.keep bq (by omega) Ny).trans ((nS.out.block bq (by omega)).trans ((aU.out.block bq lbq).trans ef.out));have CY:=(aZ.keep bj (by omega) Yp).trans ((nS.out.block bj (by omega)).trans ((aU.out.block bj lbj).trans Bv.out));have g3:W3.cell? ⟨w6.heap.size,3,none⟩=some (.slice (some ⟨xb,xo,none⟩) adn adc):=(iQ (a:=⟨w6.heap.size,3,none⟩) (aZ.keep w6.heap.size l7 (Yq _ (by omega)))).trans v3;have gx:W3.cell? ⟨xb,xo,none⟩=some (.string xt):=(iQ (a:=⟨xb,xo,none⟩) ((aZ.keep xb (by omega) (λh=>by have:=Nw _ h;omega)).trans (nS.out.block xb (by omega)))).trans Vg.out;have q0:=ae [_,_] fW 0 _ rfl;have fq:W3.frozen? ⟨bq,0,none⟩=false:=by simp[World.frozen?,fW]
      have lq3:bq<W3.heap.size:=by omega
      have FZ:=hJ _ _ _ _ iy (Pr (p:=⟨bq,0,none⟩) (.string xt) rfl Yv);have kz:Hid ((W3.setCell ⟨bq,0,none⟩ (.string xt)).heap[bq]?=some (.cells [Value.string xt,.int .i64 t].toArray 27 (0,0))):=jq (by simp[World.setCell,Array.getElem?_modify,fW]);have Sy:Hid ((W3.setCell ⟨bq,0,none⟩ (.string xt)).heap[bj]?=some (.cells [Value.slice A N C,.map (some r),.string an,.int .i64 aty,.int .i64 al,.slice aA aN aC,.int .i64 at',.int .i64 dr].toArray 80 (0,0))):=jq ((wQ _ _ _ _ (λe=>hne e)).trans CY);have Yr:¬ S1 r:=λh=>by rcases aP _ h with h | h;exact YA h;omega
      have S4:Hid (gk r kvs (W3.setCell ⟨bq,0,none⟩ (.string xt))):=jq (EJ.out.keep' ((wQ _ _ _ _ (λe=>ZC e)).trans ((aZ.keep r (by omega) Yr).trans ((nS.out.block r (by omega)).trans (aU.out.block r lr)))));have aF:Hid (Below B ({ W with heap:=w.heap } : World) (W3.setCell ⟨bq,0,none⟩ (.string xt))):=jq ((Eq.out.trans ((nS.out.aSZ).trans (aZ.below (by omega) Nw))).setCell (p:=⟨bq,0,none⟩) X9 _);have hk7:k<=7:=by have:=EC.out;omega
      clear fW CY aZ v0 v1 v2 v3 v4;gi_wp2_with fail;go_roundw
      case rel=>
       refine⟨xt,k+1,_,S3,by go_num,⟨EC.out,by rw[BU.out];exact gh.out,?_⟩,lS.out,ZW,kz.out,Sy.out,FZ,λi h=>by simpa [World.setCell] using gr i h,λi h=>?_,by simp[World.setCell];omega,aF.out,S4.out⟩
       ·rw[nU.out,List.map_append,BU.out,<-xZ.out];simp
       ·rcases ez i h with h | h
        ·exact aP i h
        ·right;omega
      case measure=>
       have:=EC.out
       simp only[intOf];omega
     ·gi_wp2_with fail;refine bodyPost_ret (results_none rfl _ _ _) rfl ?_;refine⟨⟨_,rfl⟩,.inr ⟨_,S3,lS.out,iz,λi h=>?_⟩⟩;rcases ez i h with h | h
      ·exact aP i h
      ·right;omega
end
section
open Go.RowKit Go.Shelf
attribute [local go_sem] Oper.semAt_some
theorem uc(a l m:Int)(w:World):Calls prog 180 #[.int .i64 a,.int .i64 l,.int .i64 m] w λe w'=>e = .returned (.bool (decide (l<=a)&&decide (a<=m)))/\w'=w:=by
 go_enter func180,ntmps180;by_cases h:l<=a
 ·have h1:decide (l<=a)=true:=uQ h;rw[h1];go_wp2_with fail;go_ret;exact⟨rfl,rfl⟩
 ·have h1:decide (l<=a)=false:=tQ h;rw[h1];go_wp2_with fail;go_ret;exact⟨rfl,rfl⟩
theorem azQ(x:Np.Sig)(e:List Value)(w:World)(he:dw w w.heap.size e x) :
 Calls prog 283 #[.agg e.toArray] w λe w'=>e = .returned (.bool (Np.xH x))/\Below w.heap.size w w':=by
 obtain⟨z,hz,dV,rfl⟩:=he;obtain⟨X,hX⟩:=aRZ w.heap.size;obtain⟨w1,ah⟩:=aRZ (w.alloc (.cells #[.string z,.int .i64 x.key,.int .i64 x.alg,.int .i64 x.frm,.int .i64 x.til,.int .u64 x.sum] 56));have hb:Below w.heap.size w w1:=by rw[<-ah];exact aj _ _
 have bx:w1.heap.size=X+1:=by rw[<-ah,<-hX];simp
 have p:=bD (r:=[.string z,.int .i64 x.key,.int .i64 x.alg,.int .i64 x.frm,.int .i64 x.til,.int .u64 x.sum]) hX ah;have k0:=p 0 _ rfl;obtain⟨R9,bP⟩:=aRZ (Np.xH x);rw[bP];unfold Np.xH at bP;have bv:=jq bP;clear bP;have HZ:=jq hz;have aH:=jq hb;have HP:=jq p;clear hb hz p;go_enter func283,ntmps283;go_wp2_with fail;clear ah;go_wp2_with fail;refine (jE z dV w1).mono ?_;rintro e w2 ⟨rfl,ag⟩;have ax:=aRQ aH ag;have k1:=aQY ag (HP.out 1 _ rfl);have k2:=aQY ag (HP.out 2 _ rfl);have k3:=aQY ag (HP.out 3 _ rfl);have k4:=aQY ag (HP.out 4 _ rfl);clear ag k0;obtain⟨c1,bi⟩:=aRZ (Np.ao z.data.toList);rw[bi];have cy:Hid (Np.ao x.zone=c1):=jq (by rw[<-HZ.out];exact bi);clear bi
 cases c1 with
 | false=>
  go_wp2_with fail;go_ret;exact⟨aw (by rw[<-bv.out,cy.out];simp),ax.out⟩
 | true=>
  go_wp2_with fail;refine (uc x.key 1 1000000 w2).mono ?_;rintro e w3 ⟨rfl,ci⟩;subst w3;obtain⟨c2,dR⟩:=aRZ (decide (1<=x.key)&&decide (x.key<=1000000));rw[dR];have gd:=jq dR;clear dR
  cases c2 with
  | false=>
   go_wp2_with fail;go_ret;exact⟨aw (by rw[<-bv.out,cy.out,gd.out];simp),ax.out⟩
  | true=>
   go_wp2_with fail;refine (uc x.alg 1 3 w2).mono ?_;rintro e w3 ⟨rfl,ci⟩;subst w3;obtain⟨c3,iB⟩:=aRZ (decide (1<=x.alg)&&decide (x.alg<=3));rw[iB];have g9:=jq iB;clear iB
   cases c3 with
   | false=>
    go_wp2_with fail;go_ret;exact⟨aw (by rw[<-bv.out,cy.out,gd.out,g9.out];simp),ax.out⟩
   | true=>
    by_cases h4:0<=x.frm
    case neg=>
     have h4':decide (0<=x.frm)=false:=tQ h4;have H4:=jq h4';go_wp2_with fail;go_ret;exact⟨aw (by rw[<-bv.out,cy.out,gd.out,g9.out,H4.out];simp),ax.out⟩
    have h4':decide (0<=x.frm)=true:=uQ h4;have H4:=jq h4';by_cases h5:x.frm<=x.til
    case neg=>
     have h5':decide (x.frm<=x.til)=false:=tQ h5;have H5:=jq h5';go_wp2_with fail;go_ret;exact⟨aw (by rw[<-bv.out,cy.out,gd.out,g9.out,H4.out,H5.out];simp),ax.out⟩
    have h5':decide (x.frm<=x.til)=true:=uQ h5;have H5:=jq h5';go_wp2_with fail;go_ret;exact⟨aw (by rw[<-bv.out,cy.out,gd.out,g9.out,H4.out,H5.out];simp),ax.out⟩
theorem Xm:∀ args w,(callFunc 282 args).run prog w = .ok (.enter 282 args) w:=enters_of func282 (by kernel_rfl) rfl
theorem WZ:∀ args w,(callFunc 248 args).run prog w = .ok (.enter 248 args) w:=enters_of func248 (by kernel_rfl) rfl
theorem aCQ(x:Np.Sig)(e:List Value)(w:World)(he:dw w w.heap.size e x) :
 Calls prog 282 #[.agg e.toArray] w (aUQ w.heap.size w (.bool (!Np.xH x))):=by
 obtain⟨z,hz,dV,rfl⟩:=he;have HZ:=jq hz;clear hz;go_enter func282,ntmps282;go_wp2_with fail;refine (azQ x [.string z,.int .i64 x.key,.int .i64 x.alg,.int .i64 x.frm,.int .i64 x.til,.int .u64 x.sum] _ ⟨z,HZ.out,dV,rfl⟩).mono ?_;rintro e w2 ⟨rfl,hb⟩;have HB:=jq ((aj w _).trans (hb.mono (by simp)));clear hb;go_wp2_with fail;go_ret;exact⟨rfl,HB.out⟩
theorem aAY(x:Np.Signed)(e:List Value)(w:World)(hR:bL w w.heap.size)(he:aB w w.heap.size e x) :
 Calls prog 249 #[.agg e.toArray] w λe w'=>e = .returned (.bool (Np.rD x))/\Below w.heap.size w w':=by
 obtain⟨s,dA,dn,dc,gA,gn,gc,rfl,hs,au,_,iZ,hd,hg⟩:=gZ he;obtain⟨X,hX⟩:=aRZ w.heap.size;obtain⟨w1,ah⟩:=aRZ (w.alloc (.cells #[.string s,.int .i64 x.set.type,.int .i64 x.set.life,.slice dA dn dc,.slice gA gn gc] 44));have hb:Below w.heap.size w w1:=by rw[<-ah];exact aj _ _
 have bx:w1.heap.size=X+1:=by rw[<-ah,<-hX];simp
 have p:=bD (r:=[.string s,.int .i64 x.set.type,.int .i64 x.set.life,.slice dA dn dc,.slice gA gn gc]) hX ah;have k0:=p 0 _ rfl;have k1:=p 1 _ rfl;have k2:=p 2 _ rfl;have k3:=p 3 _ rfl;have k4:=p 4 _ rfl;have HS:=jq hs;have HD:=jq (hd.later br bB hb);have HG:=jq (hg.later cK da hb);have HR:=jq ((hR.keep hb).more hb.size);have aH:=jq hb;have HP:=jq p;have yd:=jq iZ;have kV:gn<=140737488355328:=Qq hg;obtain⟨R9,bP⟩:=aRZ (Np.rD x);rw[bP];unfold Np.rD at bP;rw[iZ] at bP;have bv:=jq bP;clear hb hs p hd hg hR he iZ bP;go_enter func249,ntmps249;by_cases h6:gn<=6
 case neg=>
  have h6':decide (6<gn)=true:=aTZ;have X4:decide ((6:Int)<(gn:Int))=true:=aTZ;have H6:=jq (tQ h6);go_wp2_with fail;clear ah;go_wp2_with fail;go_ret;exact⟨aw (by rw[<-bv.out,H6.out];simp),aH.out⟩
 have h6':decide (6<gn)=false:=aSJ;have X4:decide ((6:Int)<(gn:Int))=false:=aSJ;have H6:=jq (uQ h6);go_wp2_with fail;clear ah;go_wp2_with fail;refine (oX s au x.set.type x.set.life _ x.set.data w1 HR.out HD.out).mono ?_;rintro e w2 ⟨rfl,ag⟩;rw[show (⟨s.data.toList,x.set.type,x.set.life,x.set.data⟩:Np.DSet)=x.set by rw[HS.out]];have ax:=aRQ aH ag;have gL:=jq (HG.out.later cK da ag);have q4:=aQY ag (HP.out 4 _ rfl);clear ag k0 k1 k2 k3 k4;obtain⟨c1,bi⟩:=aRZ (Np.bo x.set);rw[bi];have cy:=jq bi;clear bi
 cases c1 with
 | false=>
  go_wp2_with fail;go_ret;exact⟨aw (by rw[<-bv.out,H6.out,cy.out];simp),ax.out⟩
 | true=>
  go_wp2_with fail;refine (Ww cK 282 Xm #[] (λg:Np.Sig=>!Np.xH g) _ x.sigs w2 w2.heap.size (bQ _) gL.out ?_).mono ?_
  ·intro W y e0 e1 e2 e3 e4 e5 hy hW sE sJ;exact aCQ y _ W (da _ _ _ _ _ sJ hW.size)
  rintro e w3 ⟨rfl,hb⟩;have am:=jq (ax.out.trans (hb.mono ax.out.size));clear hb;go_wp2_with fail;go_ret;exact⟨aw (by rw[<-bv.out,H6.out,cy.out,List.not_any_eq_all_not];simp),am.out⟩
theorem VY(x:Np.Signed)(e:List Value)(w:World)(hR:bL w w.heap.size)(he:aB w w.heap.size e x) :
 Calls prog 248 #[.agg e.toArray] w (aUQ w.heap.size w (.bool (!Np.rD x))):=by
 have HE:=jq he;have HR:=jq hR;obtain⟨s,dA,dn,dc,gA,gn,gc,rfl,_,_,_,_,_,_⟩:=gZ he;clear he hR;go_enter func248,ntmps248;go_wp2_with fail;refine (aAY x [.string s,.int .i64 x.set.type,.int .i64 x.set.life,.slice dA dn dc,.slice gA gn gc] _ ((HR.out.keep (aj w _)).more (by simp)) (bf _ _ _ _ _ (az _ _ _ _ _ HE.out (aj w _)) (by simp))).mono ?_;rintro e w2 ⟨rfl,hb⟩;have HB:=jq ((aj w _).trans (hb.mono (by simp)));clear hb;go_wp2_with fail;go_ret;exact⟨rfl,HB.out⟩
def lZ(W:World)(B:Nat)(e:List Value)(a:Np.Ans):Prop:=∃ (v:Value) (c:ByteArray),SlR aB 5 W B v a.sets/\c.data.toList=a.cut/\c.size<=140737488355328/\e = [.int .i64 a.kind,v,.string c]
theorem vm:eh lZ:=λ_ _ _ _ _ ⟨v,c,h1,h2,h3,h4⟩ hb=>⟨v,c,h1.keep az hb,h2,h3,h4⟩
theorem vo:eI lZ:=λ_ _ _ _ _ ⟨v,c,h1,h2,h3,h4⟩ hb=>⟨v,c,h1.more bf hb,h2,h3,h4⟩
theorem apJ(a:Np.Ans)(e:List Value)(w:World)(hR:bL w w.heap.size)(he:lZ w w.heap.size e a) :
 Calls prog 181 #[.agg e.toArray] w λe w'=>e = .returned (.bool (Np.mL a))/\Below w.heap.size w w':=by
 obtain⟨v,c,hv,hc,hcs,rfl⟩:=he;obtain⟨A,N,C,rfl,hN,_,zk⟩:=aM hv;obtain⟨X,hX⟩:=aRZ w.heap.size;obtain⟨w1,ah⟩:=aRZ (w.alloc (.cells #[.int .i64 a.kind,.slice A N C,.string c] 29));have hb:Below w.heap.size w w1:=by rw[<-ah];exact aj _ _
 have bx:w1.heap.size=X+1:=by rw[<-ah,<-hX];simp
 have p:=bD (r:=[.int .i64 a.kind,.slice A N C,.string c]) hX ah;have k0:=p 0 _ rfl;have k1:=p 1 _ rfl;have k2:=p 2 _ rfl;have HV:=jq (hv.later az bf hb);have HR:=jq ((hR.keep hb).more hb.size);have aH:=jq hb;have HP:=jq p;have HN:=jq hN;have HC:=jq hc;obtain⟨R9,bP⟩:=aRZ (Np.mL a);rw[bP];unfold Np.mL at bP;rw[hN,show a.sets.all Np.rD=!(a.sets.any λg=>!Np.rD g) by rw[List.not_any_eq_all_not];simp] at bP;have bv:=jq bP;clear hb p hv hR hN hc bP;go_enter func181,ntmps181;go_wp2_with fail;clear ah;go_wp2_with fail;refine (uc a.kind 1 7 w1).mono ?_;rintro e w2 ⟨rfl,aX⟩;subst w2;obtain⟨c1,bi⟩:=aRZ (decide (1<=a.kind)&&decide (a.kind<=7));rw[bi];have cy:=jq bi;clear bi
 cases c1 with
 | false=>
  go_wp2_with fail;go_ret;exact⟨aw (by rw[<-bv.out,cy.out];simp),aH.out⟩
 | true=>
  by_cases h4:N<=40
  case neg=>
   have h4':decide (40<N)=true:=aTZ;have X2:decide ((40:Int)<(N:Int))=true:=aTZ;have H4:=jq (tQ h4);go_wp2_with fail;go_ret;exact⟨aw (by rw[<-bv.out,cy.out,H4.out];simp),aH.out⟩
  have h4':decide (40<N)=false:=aSJ;have X2:decide ((40:Int)<(N:Int))=false:=aSJ;have H4:=jq (uQ h4);go_wp2_with fail;refine (Mg az 248 WZ #[] (λg:Np.Signed=>!Np.rD g) _ a.sets w1 w1.heap.size (bQ _) HV.out ?_).mono ?_
  ·intro W y e hy hW sE sJ;exact VY y _ W ((HR.out.keep hW).more hW.size) (bf _ _ _ _ _ sJ hW.size)
  rintro e w3 ⟨rfl,hb⟩;have am:=jq (aH.out.trans (hb.mono aH.out.size));have q0:=aQY hb (HP.out 0 _ rfl);have q2:=aQY hb (HP.out 2 _ rfl);obtain⟨c2,dR⟩:=aRZ (a.sets.any λg=>!Np.rD g);rw[dR];have gd:=jq dR;clear dR hb k0 k1 k2
  cases c2 with
  | true=>
   go_wp2_with fail;go_ret;exact⟨aw (by rw[<-bv.out,cy.out,H4.out,gd.out];simp),am.out⟩
  | false=>
   by_cases hk:a.kind=4
   ·have hk':(a.kind == 4)=true:=by simpa using hk
    have lM:=jq hk;have bu:=am.out.size;clear hk;go_wp2_with fail;refine (jE c hcs w3).mono ?_;rintro e w4 ⟨rfl,av⟩;have aF:=jq (am.out.trans (av.mono bu));clear av;rw[HC.out];go_wp2_with fail;go_ret;exact⟨aw (by rw[<-bv.out,cy.out,H4.out,gd.out,QbQ lM.out];simp),aF.out⟩
   ·have hk':(a.kind == 4)=false:=by simpa using hk
    have lM:=jq hk;clear hk;go_wp2_with fail;go_ret;exact⟨aw (by rw[<-bv.out,cy.out,H4.out,gd.out,Qc lM.out,<-HC.out,dQ];simp),am.out⟩
end
section
open Go.RowKit Go.Shelf
attribute [local go_sem] Oper.semAt_some
theorem Np.Aw{known:List Np.Signed}{anchor:Np.DSet}{n:List UInt8}{t at' dr:Int}(h:Np.oU known=false\/Np.bo anchor=false\/anchor.type≠6\/anchor.name≠[46]):Np.eY known anchor n t at' dr=(⟨0,([],0),[]⟩,1):=by
 unfold Np.eY;rw[QbQ];rcases h with h | h | h | h
 ·unfold Np.oU at h;simp only[Bool.and_eq_false_iff,decide_eq_false_iff_not,Bool.not_eq_false'] at h;rcases h with h | h
  ·left;omega
  ·right;left;exact h
 ·right;right;left;exact h
 ·right;right;right;left;exact h
 ·right;right;right;right;exact h
theorem Np.Ax{known:List Np.Signed}{anchor:Np.DSet}{n:List UInt8}{t at' dr:Int}(h1:Np.oU known=true)(h2:Np.bo anchor=true)(h3:anchor.type=6)(h4:anchor.name = [46])(h:(Np.ao n&&(decide (1<=t)&&decide (t<=8)))=false\/Np.gw at' dr=false):Np.eY known anchor n t at' dr=(⟨0,([],0),[]⟩,1):=by
 unfold Np.oU at h1;simp only[Bool.and_eq_true,Qa,Bool.not_eq_true'] at h1;unfold Np.eY;rw[Qc (by
  rintro (h | h | h | h | h)
  ·omega
  ·rw[h1.2] at h;cases h
  ·rw[h2] at h;cases h
  ·exact h h3
  ·exact h h4),QbQ]
 rcases h with h | h
 ·left;exact Np.QW (λq=>by
   have h5:=q.1;have h6:=q.2;simp only[h5,h6,decide_true,Bool.and_self] at h
   cases h)
 ·right;exact h
theorem Np.xA{known:List Np.Signed}{anchor:Np.DSet}{n:List UInt8}{t at' dr:Int}(h1:Np.oU known=true)(h2:Np.bo anchor=true)(h3:anchor.type=6)(h4:anchor.name = [46])(h5:(Np.ao n&&(decide (1<=t)&&decide (t<=8)))=true)(h6:Np.gw at' dr=true):Np.eY known anchor n t at' dr=Np.fj known anchor at' dr (Np.f8 known t 8 n) []:=by
 unfold Np.oU at h1;simp only[Bool.and_eq_true,Qa,Bool.not_eq_true'] at h1 h5;unfold Np.eY;rw[Qc (by
  rintro (h | h | h | h | h)
  ·omega
  ·rw[h1.2] at h;cases h
  ·rw[h2] at h;cases h
  ·exact h h3
  ·exact h h4),Qc (by
    rintro (h | h)
    ·rw[Np.QX ⟨h5.1,h5.2.1,h5.2.2⟩] at h;cases h
    ·rw[h6] at h;cases h)]
def Jc(x:Np.Verd×Int)(w:World)(e:Ending)(w':World):Prop:=
 ∃ (qn:ByteArray) (A:Option Addr) (n c:Nat),e = .returned (.tuple #[.agg #[.int .i64 x.1.kind,.string qn,.int .i64 x.1.q.2,.slice A n c],.int .i64 x.2])/\qn.data.toList=x.1.q.1/\qn.size<=140737488355328/\jI aB 5 0 w.heap.size w' (.slice A n c) x.1.sets/\Below w.heap.size w w'
def lp(w:World)(X:Nat)(k:Int)(q:ByteArray)(q2:Int)(v:Value)(c:Int):World:=(((((w.setCell ⟨X+1+1,0,none⟩ (.int .i64 k)).setCell ⟨X+1+1,1,none⟩ (.string q)).setCell ⟨X+1+1,2,none⟩ (.int .i64 q2)).setCell ⟨X+1+1,3,none⟩ v).setCell ⟨X+1+1+1,0,none⟩ (.int .i64 c))
structure Outs(X:Nat)(W:World)(k:Int)(q:ByteArray)(q2:Int)(v:Value)(c:Int):Prop where
 h2:W.heap[X+1+1]?=some (.cells [Value.int .i64 k,.string q,.int .i64 q2,v].toArray 33 (0,0))
 h3:W.heap[X+1+1+1]?=some (.cells [Value.int .i64 c].toArray 34 (0,0))
theorem Outs.out{X:Nat}{W:World}{k:Int}{q:ByteArray}{q2:Int}{v:Value}{c:Int}(h:Outs X W k q q2 v c)(k':Int)(q':ByteArray)(q2':Int)(v':Value)(c':Int):Outs X (lp W X k' q' q2' v' c') k' q' q2' v' c':=
 ⟨by simp[lp,World.setCell,Array.getElem?_modify,h.h2],by simp[lp,World.setCell,Array.getElem?_modify,h.h3]⟩
theorem Outs.same{X:Nat}{W W':World}{k:Int}{q:ByteArray}{q2:Int}{v:Value}{c:Int}(h:Outs X W k q q2 v c)(h2:W'.heap[X+1+1]?=W.heap[X+1+1]?)(h3:W'.heap[X+1+1+1]?=W.heap[X+1+1+1]?):Outs X W' k q q2 v c:=⟨h2.trans h.h2,h3.trans h.h3⟩
theorem Outs.keep{X n:Nat}{W W':World}{k:Int}{q:ByteArray}{q2:Int}{v:Value}{c:Int}(h:Outs X W k q q2 v c)(hb:Below n W W')(hn:X+1+1+1<n):Outs X W' k q q2 v c:=h.same (hb.block _ (by omega)) (hb.block _ (by omega))
theorem Ig(w:World)(X:Nat)(k:Int)(q:ByteArray)(q2:Int)(v:Value)(c:Int):(lp w X k q q2 v c).heap.size=w.heap.size:=by simp[lp,World.setCell]
theorem AC{w0 w:World}{X:Nat}(h:Below X w0 w)(k:Int)(q:ByteArray)(q2:Int)(v:Value)(c:Int):Below X w0 (lp w X k q q2 v c):=
 ((((h.blSe (p:=⟨X+1+1,0,none⟩) _).blSe (p:=⟨X+1+1,1,none⟩) _).blSe (p:=⟨X+1+1,2,none⟩) _).blSe (p:=⟨X+1+1,3,none⟩) _).blSe (p:=⟨X+1+1+1,0,none⟩) _
theorem DM{S:Nat->Prop}{A w:World}{X:Nat}(h:RdStep S A w)(h2:S (X+1+1))(h3:S (X+1+1+1))(k:Int)(q:ByteArray)(q2:Int)(v:Value)(c:Int):RdStep S A (lp w X k q q2 v c):=
 ((((h.setCell (p:=⟨X+1+1,0,none⟩) (.inl h2) _).setCell (p:=⟨X+1+1,1,none⟩) (.inl h2) _).setCell (p:=⟨X+1+1,2,none⟩) (.inl h2) _).setCell (p:=⟨X+1+1,3,none⟩) (.inl h2) _).setCell (p:=⟨X+1+1+1,0,none⟩) (.inl h3) _
theorem If(w:World)(X:Nat)(k:Int)(q:ByteArray)(q2:Int)(v:Value)(c:Int){i:Nat}(h2:i≠X+1+1)(h3:i≠X+1+1+1):(lp w X k q q2 v c).heap[i]?=w.heap[i]?:=by
 simp[lp,World.setCell,Array.getElem?_modify,Ne.symm h2,Ne.symm h3]
theorem Hu{X:Nat}{W:World}{k:Int}{q:ByteArray}{q2:Int}{A:Option Addr}{n c:Nat}{cd:Int}(h:Outs X W k q q2 (.slice A n c) cd){tmps:Array Value}(t0:tmps[10]?=some (.pointer (some ⟨X+1+1,0,none⟩)))(t1:tmps[11]?=some (.pointer (some ⟨X+1+1+1,0,none⟩))) :
 (results Tryz.f11 tmps).run prog W = .ok (.tuple #[.agg #[.int .i64 k,.string q,.int .i64 q2,.slice A n c],.int .i64 cd]) W:=by
 have a0:=ae _ h.h2 0 _ rfl;have a1:=ae _ h.h2 1 _ rfl;have a2:=ae _ h.h2 2 _ rfl;have a3:=ae _ h.h2 3 _ rfl;have a4:=ae _ h.h3 0 _ rfl;simp[results,results11,go_sem,a0,a1,a2,a3,a4,t0,t1]
def gX(A:Option Addr)(N C:Nat)(an:ByteArray)(aty alf:Int)(aA:Option Addr)(aN aC:Nat)(at' dr:Int)(e2:Value)(e7:Value)(i:Nat):Value:=[.slice A N C,.slice A N C,e2,.agg #[.string an,.int .i64 aty,.int .i64 alf,.slice aA aN aC],.int .i64 at',.int .i64 dr,.agg #[.slice A N C,e2,.string an,.int .i64 aty,.int .i64 alf,.slice aA aN aC,.int .i64 at',.int .i64 dr],e7,undef].getD i undef
def kh(i:Nat):Nat:=[56,57,58,59,60,61,62,12,0].getD i 0
def aeK:List Nat:=[0,1,3,4,5,6,2,7].map kh
theorem oS:∀ i∈[0,1,3,4,5,6,2,7],kh i<97/\kh i∈aeK:=by decide
theorem rq:∀ i∈[0,1,3,4,5,6,2,7],∀ j∈[0,1,3,4,5,6,2,7],j≠i->kh i≠kh j:=by decide
def jB(T:Nat)(oA:Option Addr)(m oc:Nat)(ss:ByteArray)(sty slf:Int)(dA:Option Addr)(dn dc:Nat)(gA:Option Addr)(gn gc:Nat)(e3:Value)(e4:Value)(e5:Value)(i:Nat):Value:=[.slice oA m oc,.pointer (some ⟨T,1,none⟩),.agg #[.string ss,.int .i64 sty,.int .i64 slf,.slice dA dn dc,.slice gA gn gc],e3,e4,e5,undef].getD i undef
def mC(i:Nat):Nat:=[89,90,91,92,93,94,0].getD i 0
def aeJ:List Nat:=[0,1,2,3,4,5].map mC
theorem tk:∀ i∈[0,1,2,3,4,5],mC i<97/\mC i∈aeJ:=by decide
theorem vh:∀ i∈[0,1,2,3,4,5],∀ j∈[0,1,2,3,4,5],j≠i->mC i≠mC j:=by decide
theorem DL{w0 w:World}{n E:Nat}(h:Below n w0 w)(hE:n<=E)(v0 v1 v2 v3 v4 v5 v6 v7:Value) :
 Below n w0 ((((((((w.setCell ⟨E,0,none⟩ v0).setCell ⟨E,1,none⟩ v1).setCell ⟨E,2,none⟩ v2).setCell ⟨E,3,none⟩ v3).setCell ⟨E,4,none⟩ v4).setCell ⟨E,5,none⟩ v5).setCell ⟨E,6,none⟩ v6).setCell ⟨E,7,none⟩ v7):=
 (((((((h.setCell (p:=⟨E,0,none⟩) hE _).setCell (p:=⟨E,1,none⟩) hE _).setCell (p:=⟨E,2,none⟩) hE _).setCell (p:=⟨E,3,none⟩) hE _).setCell (p:=⟨E,4,none⟩) hE _).setCell (p:=⟨E,5,none⟩) hE _).setCell (p:=⟨E,6,none⟩) hE _).setCell (p:=⟨E,7,none⟩) hE _
def Jd5(a0:Act)(X:Nat)(known:List Np.Signed)(A:Option Addr)(N C:Nat)(an:ByteArray)(aty alf:Int)(aA:Option Addr)(aN aC:Nat)(at' dr:Int)(w5:World)(ex:Exit)(a':Act)(w':World):Prop:=
 ∃ (r E:Nat) (kvs:List ((List UInt8×Int)×Value)),ex = .normal/\a'=nb a0 ([0,1,3,4,5,6,2,7].map λi=>(kh i,gX A N C an aty alf aA aN aC at' dr (.map (some r)) (.pointer (some ⟨E,0,none⟩)) i))/\
   w5.heap.size<=E/\E<w'.heap.size/\w5.heap.size<=r/\r<w'.heap.size/\r≠E/\w'.heap[E]?=some (.cells [Value.slice A N C,.map (some r),.string an,.int .i64 aty,.int .i64 alf,.slice aA aN aC,.int .i64 at',.int .i64 dr].toArray 80 (0,0))/\gk r kvs w'/\jd known w' X kvs/\Below w5.heap.size w5 w'
theorem Np.aEJ(known:List Np.Signed)(n:List UInt8)(t:Int):(Np.pc known n t).length<=2+known.length:=by
 unfold Np.pc;split
 ·rw[List.length_map];unfold Np.rH
  cases hf:(Np.ups n).findSome? λa=>(Np.eu known (Np.dj a) t).bind λs=>(known.find? λp=>Np.aE p == Np.aE s&&Np.nN p.set (Np.aE s) n a).map λp=>[s,p] with
  | none=>simp
  | some l=>
   obtain⟨a,_,ha⟩:=List.exists_of_findSome?_eq_some hf;obtain⟨x,hx,hb⟩:=Option.bind_eq_some_iff.1 ha;obtain⟨p,hp,rfl⟩:=Option.map_eq_some_iff.1 hb;simp
 ·split
  ·rw[List.length_map];unfold Np.sB
   cases hf:((Np.ph n known []).mergeSort λa b=>decide (Np.eD b<=Np.eD a)).findSome? λz=>
    if Np.nu z n t ((Np.el known z).map (·.set))=(5,0)\/Np.nu z n t ((Np.el known z).map (·.set))=(6,0) then some (Np.el known z) else none with
   | none=>simp
   | some l=>
    obtain⟨z,_,hz⟩:=List.exists_of_findSome?_eq_some hf;split at hz
    ·cases hz
     have:=List.length_filter_le (λs:Np.Signed=>decide (s.set.type=8)&&Np.aE s == z) known
     simp only[Option.getD_some,Np.el];omega
    ·cases hz
  ·simp;omega
theorem Np.PJ(known:List Np.Signed)(t:Int):∀ (k:Nat) (n:List UInt8),(Np.f8 known t k n).length<=k+2+known.length
 | k,n=>by
   unfold Np.f8;split
   ·simp;omega
   ·split
    ·have:=Np.aEJ known n t;omega
    ·rename_i a _
     cases k with
     | zero=>simp;omega
     | succ k=>
      have:=Np.PJ known t k (Np.gY a.set)
      simp;omega
def JMs(X G:Nat)(gv:Value)(S:Nat->Prop)(k:Nat):Prop:=k=G\/k=X+1+1\/k=X+1+1+1\/gv.ownBlock=some k\/¬ S k
structure JSt(known:List Np.Signed)(anchor:Np.DSet)(at' dr:Int)(LS:List Np.Found)(X E G:Nat)(jl:List Value)(w:World)(pre:List FV)(S:Nat->Prop)(W:World)(gv:Value)(good:List Np.Signed):Prop where
 s2:S (X+1+1)
 s3:S (X+1+1+1)
 sg:S G
 so:∀ g,gv.ownBlock=some g->S g
 sb:∀ k,S k->k=X+1+1\/k=X+1+1+1\/G<=k
 cg:W.heap[G]?=some (.cells [gv].toArray 22 (0,0))
 out:Outs X W 0 ⟨#[]⟩ 0 (.slice none 0 0) 0
 ce:W.heap[E]?=some (.cells jl.toArray 80 (0,0))
 ow:dN aB 5 44 (G+1) (JMs X G gv S) W gv good
 len:good.length=pre.length
 val:∀ rest,LS=pre.map (·.2)++rest->Np.fj known anchor at' dr LS []=Np.fj known anchor at' dr rest good
 bel:Below X w W
def JI(known:List Np.Signed)(anchor:Np.DSet)(at' dr:Int)(LS:List Np.Found)(X E G:Nat)(jl:List Value)(w:World)(pre:List FV)(S:Nat->Prop)(W:World):Prop:=∃ gv good,JSt known anchor at' dr LS X E G jl w pre S W gv good
def JX(known:List Np.Signed)(anchor:Np.DSet)(at' dr:Int)(LS:List Np.Found)(X:Nat)(w:World)(c:Code)(_:List FV)(S:Nat->Prop)(W:World):Prop:=
 c = .ret/\S (X+1+1)/\S (X+1+1+1)/\∃ (k:Int) (q:ByteArray) (q2 cd:Int),Outs X W k q q2 (.slice none 0 0) cd/\Np.fj known anchor at' dr LS []=(⟨k,(q.data.toList,q2),[]⟩,cd)/\q.size<=140737488355328/\Below X w W
theorem Pq{n B bq:Nat}{S:Nat->Prop}{w0 W W':World}(hb:Below n w0 W)(h:ItO B (λk=>k=bq) S W W')(hB:n<=B)(hq:n<=bq)(hz:n<=w0.heap.size):Below n w0 W':=
 ⟨h.os.trans hb.os,h.tape.trans hb.tape,h.output.trans hb.output,yQ hb.size h.size,λk hk=>(h.keep k (by have:=hb.size;omega) (.inl ⟨by omega,by omega⟩)).trans (hb.block k hk)⟩
theorem dN.trim{α:Type}{R:aUJ α}(hk:eh R)(hs:gO R)(hm:eI R){sz:Nat}{e:TypeId}{base:Nat}{M:Nat->Prop}{w:World}{v:Value}{xs:List α}(h:dN R sz e base M w v xs):dN R sz e base (λk=>M k/\k<w.heap.size) w v xs:=
 h.leaves hk hs hm ⟨rfl,rfl,rfl,bQ _,λi hi hm=>⟨λe=>hm e.1,rfl⟩⟩ (λg hg=>⟨rfl,by obtain⟨rows,h1,h2,h3,h4⟩:=h;exact⟨h3 g hg,(h2.lt g hg).2⟩⟩)
section
variable {known:List Np.Signed} {anchor:Np.DSet} {at' dr:Int} {LS:List Np.Found} {X E G B bq:Nat} {jl:List Value} {w:World}
theorem JSt.it{pre:List FV}{S:Nat->Prop}{W W':World}{gv:Value}{good:List Np.Signed}(hG:G<B)(hE:E<B)(hX:X<=G)(hw:X<=w.heap.size)(hq:G<bq)(FU:E≠bq)(h:JSt known anchor at' dr LS X E G jl w pre S W gv good)(aq:ItO B (λk=>k=bq) S W W'):JSt known anchor at' dr LS X E G jl w pre S W' gv good:=by
 have af:=(eQ.1 h.ce).1;have i5:=(eQ.1 h.out.h2).1;have i6:=(eQ.1 h.out.h3).1;refine⟨h.s2,h.s3,h.sg,h.so,h.sb,(aq.keep G (eQ.1 h.cg).1 (.inr h.sg)).trans h.cg,h.out.same (aq.keep _ i5 (.inr h.s2)) (aq.keep _ i6 (.inr h.s3)),(aq.keep E af (.inl ⟨hE,FU⟩)).trans h.ce,?_,h.len,h.val,Pq h.bel aq (by omega) (by omega) hw⟩;refine h.ow.leaves az kj bf ⟨aq.os,aq.tape,aq.output,aq.size,λi hi hm=>⟨hm,aq.keep i hi ?_⟩⟩ (λg hg=>⟨aq.keep g (h.ow.lt g hg).2 (.inr (h.so g hg)),.inr (.inr (.inr (.inl hg)))⟩);exact .inr (Classical.byContradiction λhs=>hm (.inr (.inr (.inr (.inr hs)))))
theorem aeQ(hG:G<B)(hE:E<B)(hX:X<=G)(hw:X<=w.heap.size)(hq:G<bq)(FU:E≠bq):jS B (λk=>k=bq) (JI known anchor at' dr LS X E G jl w):=by
 rintro pre S W W' ⟨gv,good,h⟩ aq;exact⟨gv,good,h.it hG hE hX hw hq FU aq⟩
theorem JSt.box{pre:List FV}{S:Nat->Prop}{W W1:World}{gv:Value}{good:List Np.Signed}{T:Nat}(h:JSt known anchor at' dr LS X E G jl w pre S W gv good)(hb:Below W.heap.size W W1)(hX:X<=W.heap.size)(hT:G<=T):JSt known anchor at' dr LS X E G jl w pre (λk=>S k\/k=T) W1 gv good:=by
 have af:=(eQ.1 h.ce).1;have i5:=(eQ.1 h.out.h2).1;have i6:=(eQ.1 h.out.h3).1;refine⟨.inl h.s2,.inl h.s3,.inl h.sg,λg hg=>.inl (h.so g hg),λk e=>?_,(hb.block G (eQ.1 h.cg).1).trans h.cg,h.out.same (hb.block _ i5) (hb.block _ i6),(hb.block E af).trans h.ce,?_,h.len,h.val,h.bel.trans (hb.mono hX)⟩
 ·rcases e with e | e
  ·exact h.sb k e
  ·right;right;omega
 ·refine h.ow.leaves az kj bf ⟨hb.os,hb.tape,hb.output,hb.size,λi hi hm=>⟨λe=>hm ?_,hb.block i hi⟩⟩ (λg hg=>⟨hb.block g (h.ow.lt g hg).2,.inr (.inr (.inr (.inl hg)))⟩);rcases e with e | e | e | e | e
  ·exact .inl e
  ·exact .inr (.inl e)
  ·exact .inr (.inr (.inl e))
  ·exact .inr (.inr (.inr (.inl e)))
  ·exact .inr (.inr (.inr (.inr (λhs=>e (.inl hs)))))
theorem JSt.push{pre:List FV}{S:Nat->Prop}{W wX wY:World}{gv v8:Value}{good:List Np.Signed}{y:Np.Signed}{x:FV}(h:JSt known anchor at' dr LS X E G jl w pre S W gv good)(hb:Below W.heap.size W wX)
 (mp:dN aB 5 44 (G+1) (λk=>(JMs X G gv S k/\k<W.heap.size)\/v8.ownBlock=some k) wY v8 (good ++ [y])) (j8:wX.grownBy wY gv.ownBlock) (uw:v8.ownBlock=gv.ownBlock\/v8.ownBlock=some wX.heap.size)
 (zr:∀ k,S k->k<W.heap.size) (hE:E<G) (hXE:X+1+1+1<E) (hl:(Np.fI known anchor at' dr y).1=1) (hx:x.2 = .set y) :
 ∃ S',RdStep S W (wY.setCell ⟨G,0,none⟩ v8)/\(∀ k,S' k->S k\/W.heap.size<=k)/\(∀ k,S' k->k<(wY.setCell ⟨G,0,none⟩ v8).heap.size)/\JI known anchor at' dr LS X E G jl w (pre ++ [x]) S' (wY.setCell ⟨G,0,none⟩ v8):=by
 have af:=(eQ.1 h.ce).1;have i5:=zr _ h.s2;have i6:=zr _ h.s3;have Ye:=zr _ h.sg;have Hq:=hb.size;have Pf:=j8.size;have hown:∀ k,gv.ownBlock=some k->G+1<=k:=λk e=>(h.ow.lt k e).1;have au:(wY.setCell ⟨G,0,none⟩ v8).heap.size=wY.heap.size:=by simp[World.setCell]
 have aZ:RdStep S W (wY.setCell ⟨G,0,none⟩ v8):=((RdStep.of_below hb).grown j8 (λk e=>.inl (h.so k e))).setCell (p:=⟨G,0,none⟩) (.inl h.sg) _;have pS:∀ k,k<W.heap.size->k≠G->gv.ownBlock≠some k->(wY.setCell ⟨G,0,none⟩ v8).heap[k]?=W.heap[k]?:=λk h1 h2 h3=>
  (wQ _ _ _ _ (λe=>h2 e)).trans ((j8.block k (by omega) (λe=>h3 e.symm)).trans (hb.block k h1))
 have Zn:¬ S E:=λe=>by have:=h.sb E e;omega
 have Yf:wY.heap[G]?=some (.cells [gv].toArray 22 (0,0)):=(j8.block G (by omega) (λe=>by have:=hown G e.symm;omega)).trans ((hb.block G Ye).trans h.cg);refine⟨λk=>S k\/(W.heap.size<=k/\k<wY.heap.size),aZ,λk e=>e.imp id (λe=>e.1),λk e=>by rw[au];exact e.elim (λe=>by have:=zr k e;omega) (λe=>e.2),v8,good ++ [y],?_⟩;refine⟨.inl h.s2,.inl h.s3,.inl h.sg,λg hg=>?_,λk e=>?_,by simp[World.setCell,Array.getElem?_modify,Yf],h.out.same (pS _ i5 (by omega) (λe=>by have:=hown _ e;omega)) (pS _ i6 (by omega) (λe=>by have:=hown _ e;omega)),(aZ.keep E af Zn).trans h.ce,?_,by simp[h.len],λrest hr=>?_,h.bel.trans (aZ.below (by omega) (λk e=>by have:=h.sb k e;omega))⟩
 ·rcases uw with e | e
  ·exact .inl (h.so g (e ▸ hg))
  ·have h1:=(mp.lt g hg).2;rw[e] at hg;simp only[Option.some.injEq] at hg;exact .inr ⟨by omega,by omega⟩
 ·rcases e with e | e
  ·exact h.sb k e
  ·right;right;omega
 ·refine mp.leaves az kj bf ⟨rfl,rfl,rfl,by rw[au];exact bQ _,λi hi hm=>⟨λe=>hm ?_,wQ _ _ _ _ (λe=>hm (.inl ⟨.inl e,by have e':i=G:=e;omega⟩))⟩⟩ (λg hg=>⟨wQ _ _ _ _ (λe=>by have:=(mp.lt g hg).1;dsimp only at e;omega),.inr (.inr (.inr (.inl hg)))⟩);rcases e with e | e | e | e | e
  ·exact .inl ⟨.inl e,by omega⟩
  ·exact .inl ⟨.inr (.inl e),by omega⟩
  ·exact .inl ⟨.inr (.inr (.inl e)),by omega⟩
  ·exact .inr e
  ·have hn:¬ S i:=λhs=>e (.inl hs);refine .inl ⟨.inr (.inr (.inr (.inr hn))),Nat.lt_of_not_le λj9=>e (.inr ⟨j9,hi⟩)⟩
 ·rw[h.val (.set y::rest) (by rw[hr,List.map_append,List.append_assoc];simp[hx]),Np.fj,QbQ hl]
theorem aeZ(hG:G<B)(hX:X<=G)(hw:X<=w.heap.size)(hq:G<bq)(c:Code):jS B (λk=>k=bq) (JX known anchor at' dr LS X w c):=by
 rintro pre S W W' ⟨hc,h2,h3,k,q,q2,cd,ho,hv,hs,hb⟩ aq;exact⟨hc,h2,h3,k,q,q2,cd,ho.same (aq.keep _ (eQ.1 ho.h2).1 (.inr h2)) (aq.keep _ (eQ.1 ho.h3).1 (.inr h3)),hv,hs,Pq hb aq (by omega) (by omega) hw⟩
end
theorem Ay(kv:Value)(known:List Np.Signed)(an qn:ByteArray)(anchor:Np.DSet)(han:an.data.toList=anchor.name)(mj:an.size<=140737488355328)(adv:Value)(t at' dr:Int)(fH:qn.size<=140737488355328)(w:World)(hR:bL w w.heap.size)(hk:SlR aB 5 w w.heap.size kv known)(mu:∀ x∈known,x.set.data.length<=100000/\x.sigs.length<=100000)(fP:SlR bS 3 w w.heap.size adv anchor.data) :
 Calls prog 11 #[kv,.agg #[.string an,.int .i64 anchor.type,.int .i64 anchor.life,adv],.agg #[.string qn,.int .i64 t],.int .i64 at',.int .i64 dr] w (Jc (Np.eY known anchor qn.data.toList t at' dr) w):=by
 obtain⟨A,N,C,rfl,hN,_,_⟩:=aM hk;obtain⟨aA,aN,aC,rfl,NH,_,_⟩:=aM fP;have HN:=jq hN;have pz:=jq mu;clear mu;have fJ:=jq han;obtain⟨X,hX⟩:=aRZ w.heap.size;rw[hX] at hR hk fP;have HK:=jq hk;have qs:=jq fP;have dK:=jq hR;have HX:=jq hX;obtain⟨w1,ah⟩:=aRZ (w.alloc (.cells #[.string an,.int .i64 anchor.type,.int .i64 anchor.life,.slice aA aN aC] 25));obtain⟨w2,aX⟩:=aRZ (w1.alloc (.cells #[.string qn,.int .i64 t] 27));obtain⟨w3,ci⟩:=aRZ (w2.alloc (.cells #[.int .i64 0,.string ⟨#[]⟩,.int .i64 0,.slice none 0 0] 33));obtain⟨w4,dD⟩:=aRZ (w3.alloc (.cells #[.int .i64 0] 34));have z1:w1.heap.size=X+1:=by rw[<-ah,<-hX];simp
 have z2:w2.heap.size=X+1+1:=by rw[<-aX];simp[z1]
 have z3:w3.heap.size=X+1+1+1:=by rw[<-ci];simp[z2]
 have z4:w4.heap.size=X+1+1+1+1:=by rw[<-dD];simp[z3]
 have ay:Below X w w1:=by rw[<-ah,<-hX];exact aj _ _
 have ag:Below w1.heap.size w1 w2:=by rw[<-aX];exact aj _ _
 have ai:Below w2.heap.size w2 w3:=by rw[<-ci];exact aj _ _
 have av:Below w3.heap.size w3 w4:=by rw[<-dD];exact aj _ _
 have pA:Hid (X+1+1+1+1<=w4.heap.size):=jq (by omega);have En:=jq (ay.trans ((ag.aSZ).trans ((ai.aSZ).trans (av.aSZ))));have nV:Hid (Outs X w4 0 ⟨#[]⟩ 0 (.slice none 0 0) 0):=jq ⟨(av.block (X+1+1) (by omega)).trans (by rw[<-ci,<-z2];exact heap_alloc_new _ _),by rw[<-dD,<-z3];exact heap_alloc_new _ _⟩;have cy:Hid (w4.heap[X]?=some (.cells [Value.string an,.int .i64 anchor.type,.int .i64 anchor.life,.slice aA aN aC].toArray 25 (0,0))):=jq ((av.block X (by omega)).trans ((ai.block X (by omega)).trans ((ag.block X (by omega)).trans (by rw[<-ah,<-hX];exact heap_alloc_new _ _))));have gd:Hid (w4.heap[X+1]?=some (.cells [Value.string qn,.int .i64 t].toArray 27 (0,0))):=jq ((av.block (X+1) (by omega)).trans ((ai.block (X+1) (by omega)).trans (by rw[<-aX,<-z1];exact heap_alloc_new _ _)));obtain⟨RES,co⟩:=aRZ (Np.eY known anchor qn.data.toList t at' dr);rw[co];have aO:=jq co;have ga:Hid (∀ W,Outs X W 0 ⟨#[]⟩ 0 (.slice none 0 0) 0->Below X w W->RES=(⟨0,([],0),[]⟩,1)->∀ tmps:Array Value,tmps[10]?=some (.pointer (some ⟨X+1+1,0,none⟩))->tmps[11]?=some (.pointer (some ⟨X+1+1+1,0,none⟩))->
  bodyPostM Fence.wide 0 prog Tryz.f11 (Jc RES w) .ret { tmps:=tmps,defers:=[] } (lp W X 0 ⟨#[]⟩ 0 (.slice none 0 0) 1)):=jq (λW ho hb hr tmps t0 t1=>by
  refine pG (Hu (ho.out 0 ⟨#[]⟩ 0 (.slice none 0 0) 1) t0 t1) ?_;rw[hr];exact⟨⟨#[]⟩,none,0,0,rfl,rfl,by decide,λ_ _=>g8 _ _,by rw[hX];exact AC hb _ _ _ _ _⟩)
 clear co ay ag ai av hk fP hR hN han;refine (callsIn_wide (n:=0)).1 ?_;refine callsIn_of_wp_marks func11 rfl trivial ?_ rfl;simp only[ntmps11,List.size_toArray,List.length_cons,List.length_nil,Nat.reduceAdd,Nat.reduceSub,Array.replicate_succ,Array.replicate_zero,List.push_toArray,List.append_toArray,List.nil_append,List.cons_append];gi_wp2_with fail;clear ah aX ci dD;refine⟨trivial,rfl,?_⟩;refine (callsIn_wide.2 (agK (.slice A N C) known w4 ((dK.out.keep En.out).more (by have:=pA.out;omega)) ((HK.out.keep az En.out).more bf (by have:=pA.out;omega)))).mono ?_;rintro e w5 ⟨rfl,aI⟩;have th:X+1+1+1+1<=w5.heap.size:=by have:=aI.size;have:=pA.out;omega
 have AZ:=jq (En.out.trans (aI.mono (by have:=pA.out;omega)));have gB:=jq (nV.out.keep aI (by have:=pA.out;omega));have xU:=jq ((aI.block X (by have:=pA.out;omega)).trans cy.out);have RA:=jq ((aI.block (X+1) (by have:=pA.out;omega)).trans gd.out);clear aI;obtain⟨g1,cR⟩:=aRZ (Np.oU known);rw[cR];have jK:=jq cR;clear cR
 cases g1 with
 | false=>
  have y0:=ae _ gB.out.h2 0 _ rfl;have g0:w5.frozen? ⟨X+1+1,0,none⟩=false:=by simp[World.frozen?,gB.out.h2]
  have y1:=ae _ gB.out.h2 1 _ rfl;have g1:w5.frozen? ⟨X+1+1,1,none⟩=false:=by simp[World.frozen?,gB.out.h2]
  have y2:=ae _ gB.out.h2 2 _ rfl;have g2:w5.frozen? ⟨X+1+1,2,none⟩=false:=by simp[World.frozen?,gB.out.h2]
  have y3:=ae _ gB.out.h2 3 _ rfl;have g3:w5.frozen? ⟨X+1+1,3,none⟩=false:=by simp[World.frozen?,gB.out.h2]
  have y4:=ae _ gB.out.h3 0 _ rfl;have g4:w5.frozen? ⟨X+1+1+1,0,none⟩=false:=by simp[World.frozen?,gB.out.h3]
  gi_wp2_with fail;refine⟨trivial,?_⟩;gi_wp2_with fail;exact ga.out w5 gB.out AZ.out (by rw[<-aO.out,Np.Aw (.inl jK.out)]) _ rfl rfl
 | true=>
  have rX:Hid (bL w5 w5.heap.size/\SlR bS 3 w5 w5.heap.size (.slice aA aN aC) anchor.data):=jq (And.intro ((dK.out.keep AZ.out).more (by omega)) ((qs.out.keep br AZ.out).more bB (by omega)));have a0:=ae _ xU.out 0 _ rfl;have a1:=ae _ xU.out 1 _ rfl;have a2:=ae _ xU.out 2 _ rfl;have a3:=ae _ xU.out 3 _ rfl;gi_wp2_with fail;clear a0 a1 a2 a3;refine⟨trivial,rfl,?_⟩;refine (callsIn_wide.2 (oX an mj anchor.type anchor.life _ anchor.data w5 rX.out.1 rX.out.2)).mono ?_;rintro e w6 ⟨rfl,bh⟩;have rm:=bh.size;have Ba:=aRQ AZ bh;have du:=jq (gB.out.keep bh (by omega));have xV:=jq ((bh.block X (by omega)).trans xU.out);have Es:=jq ((bh.block (X+1) (by omega)).trans RA.out);obtain⟨g2,ew⟩:=aRZ (Np.bo ⟨an.data.toList,anchor.type,anchor.life,anchor.data⟩);rw[ew];rw[fJ.out] at ew;have gL:Hid (Np.bo anchor=g2):=jq ew;clear ew bh
  cases g2 with
  | false=>
   have y0:=ae _ du.out.h2 0 _ rfl;have g0:w6.frozen? ⟨X+1+1,0,none⟩=false:=by simp[World.frozen?,du.out.h2]
   have y1:=ae _ du.out.h2 1 _ rfl;have g1:w6.frozen? ⟨X+1+1,1,none⟩=false:=by simp[World.frozen?,du.out.h2]
   have y2:=ae _ du.out.h2 2 _ rfl;have g2:w6.frozen? ⟨X+1+1,2,none⟩=false:=by simp[World.frozen?,du.out.h2]
   have y3:=ae _ du.out.h2 3 _ rfl;have g3:w6.frozen? ⟨X+1+1,3,none⟩=false:=by simp[World.frozen?,du.out.h2]
   have y4:=ae _ du.out.h3 0 _ rfl;have g4:w6.frozen? ⟨X+1+1+1,0,none⟩=false:=by simp[World.frozen?,du.out.h3]
   gi_wp2_with fail;exact ga.out w6 du.out Ba.out (by rw[<-aO.out,Np.Aw (.inr (.inl gL.out))]) _ rfl rfl
  | true=>
   have a0:=ae _ xV.out 0 _ rfl;have a1:=ae _ xV.out 1 _ rfl;by_cases h6:anchor.type=6
   case neg=>
    have h6':(anchor.type == 6)=false:=by simpa using h6
    have H6:=jq h6;clear h6;have y0:=ae _ du.out.h2 0 _ rfl;have g0:w6.frozen? ⟨X+1+1,0,none⟩=false:=by simp[World.frozen?,du.out.h2]
    have y1:=ae _ du.out.h2 1 _ rfl;have g1:w6.frozen? ⟨X+1+1,1,none⟩=false:=by simp[World.frozen?,du.out.h2]
    have y2:=ae _ du.out.h2 2 _ rfl;have g2:w6.frozen? ⟨X+1+1,2,none⟩=false:=by simp[World.frozen?,du.out.h2]
    have y3:=ae _ du.out.h2 3 _ rfl;have g3:w6.frozen? ⟨X+1+1,3,none⟩=false:=by simp[World.frozen?,du.out.h2]
    have y4:=ae _ du.out.h3 0 _ rfl;have g4:w6.frozen? ⟨X+1+1+1,0,none⟩=false:=by simp[World.frozen?,du.out.h3]
    gi_wp2_with fail;exact ga.out w6 du.out Ba.out (by rw[<-aO.out,Np.Aw (.inr (.inr (.inl H6.out)))]) _ rfl rfl
   have h6':(anchor.type == 6)=true:=by simpa using h6
   have H6:=jq h6;clear h6;by_cases xi:an.data.toList = [46]
   case neg=>
    have OQ:(an.toList == [46])=false:=by rw[dQ];simpa using xi
    have lT:Hid (anchor.name≠[46]):=jq (by rw[<-fJ.out];exact xi);clear xi;have y0:=ae _ du.out.h2 0 _ rfl;have g0:w6.frozen? ⟨X+1+1,0,none⟩=false:=by simp[World.frozen?,du.out.h2]
    have y1:=ae _ du.out.h2 1 _ rfl;have g1:w6.frozen? ⟨X+1+1,1,none⟩=false:=by simp[World.frozen?,du.out.h2]
    have y2:=ae _ du.out.h2 2 _ rfl;have g2:w6.frozen? ⟨X+1+1,2,none⟩=false:=by simp[World.frozen?,du.out.h2]
    have y3:=ae _ du.out.h2 3 _ rfl;have g3:w6.frozen? ⟨X+1+1,3,none⟩=false:=by simp[World.frozen?,du.out.h2]
    have y4:=ae _ du.out.h3 0 _ rfl;have g4:w6.frozen? ⟨X+1+1+1,0,none⟩=false:=by simp[World.frozen?,du.out.h3]
    gi_wp2_with fail;exact ga.out w6 du.out Ba.out (by rw[<-aO.out,Np.Aw (.inr (.inr (.inr lT.out)))]) _ rfl rfl
   have OQ:(an.toList == [46])=true:=by rw[dQ,xi];rfl
   have lT:Hid (anchor.name = [46]):=jq (by rw[<-fJ.out];exact xi);clear xi;have c0:=ae _ Es.out 0 _ rfl;have c1:=ae _ Es.out 1 _ rfl;gi_wp2_with fail;clear a0 a1 h6' OQ c0 c1;refine⟨trivial,rfl,?_⟩;replace xV:Hid (w6.heap[X]?=some (.cells [Value.string an,.int .i64 6,.int .i64 anchor.life,.slice aA aN aC].toArray 25 (0,0))):=jq (by have h:=xV.out;rw[H6.out] at h;exact h);refine (callsIn_wide.2 (QG qn fH t w6)).mono ?_;rintro e w7 ⟨rfl,bm⟩;have ti:=bm.size;have vC:=aRQ Ba bm;have bC:=jq (du.out.keep bm (by omega));have Rz:=jq ((bm.block X (by omega)).trans xV.out);have RB:=jq ((bm.block (X+1) (by omega)).trans Es.out);clear bm;obtain⟨g3,gp⟩:=aRZ (Np.ao qn.data.toList&&(decide (1<=t)&&decide (t<=8)));rw[gp];have yc:=jq gp;clear gp
   cases g3 with
   | false=>
    have y0:=ae _ bC.out.h2 0 _ rfl;have g0:w7.frozen? ⟨X+1+1,0,none⟩=false:=by simp[World.frozen?,bC.out.h2]
    have y1:=ae _ bC.out.h2 1 _ rfl;have g1:w7.frozen? ⟨X+1+1,1,none⟩=false:=by simp[World.frozen?,bC.out.h2]
    have y2:=ae _ bC.out.h2 2 _ rfl;have g2:w7.frozen? ⟨X+1+1,2,none⟩=false:=by simp[World.frozen?,bC.out.h2]
    have y3:=ae _ bC.out.h2 3 _ rfl;have g3:w7.frozen? ⟨X+1+1,3,none⟩=false:=by simp[World.frozen?,bC.out.h2]
    have y4:=ae _ bC.out.h3 0 _ rfl;have g4:w7.frozen? ⟨X+1+1+1,0,none⟩=false:=by simp[World.frozen?,bC.out.h3]
    gi_wp2_with fail;exact ga.out w7 bC.out vC.out (by rw[<-aO.out,Np.Ax jK.out gL.out H6.out lT.out (.inl yc.out)]) _ rfl rfl
   | true=>
    by_cases Cp:at'<0
    case pos=>
     have ww:decide (at'<0)=true:=uQ Cp;have np:Hid (Np.gw at' dr=false):=jq (by simp only[Np.gw,Bool.and_eq_false_iff,decide_eq_false_iff_not];omega);clear Cp;have y0:=ae _ bC.out.h2 0 _ rfl;have g0:w7.frozen? ⟨X+1+1,0,none⟩=false:=by simp[World.frozen?,bC.out.h2]
     have y1:=ae _ bC.out.h2 1 _ rfl;have g1:w7.frozen? ⟨X+1+1,1,none⟩=false:=by simp[World.frozen?,bC.out.h2]
     have y2:=ae _ bC.out.h2 2 _ rfl;have g2:w7.frozen? ⟨X+1+1,2,none⟩=false:=by simp[World.frozen?,bC.out.h2]
     have y3:=ae _ bC.out.h2 3 _ rfl;have g3:w7.frozen? ⟨X+1+1,3,none⟩=false:=by simp[World.frozen?,bC.out.h2]
     have y4:=ae _ bC.out.h3 0 _ rfl;have g4:w7.frozen? ⟨X+1+1+1,0,none⟩=false:=by simp[World.frozen?,bC.out.h3]
     gi_wp2_with fail;exact ga.out w7 bC.out vC.out (by rw[<-aO.out,Np.Ax jK.out gL.out H6.out lT.out (.inr np.out)]) _ rfl rfl
    have ww:decide (at'<0)=false:=tQ Cp;by_cases Cq:10000000<at'
    case pos=>
     have me:decide (10000000<at')=true:=uQ Cq;have np:Hid (Np.gw at' dr=false):=jq (by simp only[Np.gw,Bool.and_eq_false_iff,decide_eq_false_iff_not];omega);clear Cq;have y0:=ae _ bC.out.h2 0 _ rfl;have g0:w7.frozen? ⟨X+1+1,0,none⟩=false:=by simp[World.frozen?,bC.out.h2]
     have y1:=ae _ bC.out.h2 1 _ rfl;have g1:w7.frozen? ⟨X+1+1,1,none⟩=false:=by simp[World.frozen?,bC.out.h2]
     have y2:=ae _ bC.out.h2 2 _ rfl;have g2:w7.frozen? ⟨X+1+1,2,none⟩=false:=by simp[World.frozen?,bC.out.h2]
     have y3:=ae _ bC.out.h2 3 _ rfl;have g3:w7.frozen? ⟨X+1+1,3,none⟩=false:=by simp[World.frozen?,bC.out.h2]
     have y4:=ae _ bC.out.h3 0 _ rfl;have g4:w7.frozen? ⟨X+1+1+1,0,none⟩=false:=by simp[World.frozen?,bC.out.h3]
     gi_wp2_with fail;exact ga.out w7 bC.out vC.out (by rw[<-aO.out,Np.Ax jK.out gL.out H6.out lT.out (.inr np.out)]) _ rfl rfl
    have me:decide (10000000<at')=false:=tQ Cq;by_cases Cr:dr<0
    case pos=>
     have wB:decide (dr<0)=true:=uQ Cr;have np:Hid (Np.gw at' dr=false):=jq (by simp only[Np.gw,Bool.and_eq_false_iff,decide_eq_false_iff_not];omega);clear Cr;have y0:=ae _ bC.out.h2 0 _ rfl;have g0:w7.frozen? ⟨X+1+1,0,none⟩=false:=by simp[World.frozen?,bC.out.h2]
     have y1:=ae _ bC.out.h2 1 _ rfl;have g1:w7.frozen? ⟨X+1+1,1,none⟩=false:=by simp[World.frozen?,bC.out.h2]
     have y2:=ae _ bC.out.h2 2 _ rfl;have g2:w7.frozen? ⟨X+1+1,2,none⟩=false:=by simp[World.frozen?,bC.out.h2]
     have y3:=ae _ bC.out.h2 3 _ rfl;have g3:w7.frozen? ⟨X+1+1,3,none⟩=false:=by simp[World.frozen?,bC.out.h2]
     have y4:=ae _ bC.out.h3 0 _ rfl;have g4:w7.frozen? ⟨X+1+1+1,0,none⟩=false:=by simp[World.frozen?,bC.out.h3]
     gi_wp2_with fail;exact ga.out w7 bC.out vC.out (by rw[<-aO.out,Np.Ax jK.out gL.out H6.out lT.out (.inr np.out)]) _ rfl rfl
    have wB:decide (dr<0)=false:=tQ Cr;by_cases Cs:1000<dr
    case pos=>
     have wD:decide (1000<dr)=true:=uQ Cs;have np:Hid (Np.gw at' dr=false):=jq (by simp only[Np.gw,Bool.and_eq_false_iff,decide_eq_false_iff_not];omega);clear Cs;have y0:=ae _ bC.out.h2 0 _ rfl;have g0:w7.frozen? ⟨X+1+1,0,none⟩=false:=by simp[World.frozen?,bC.out.h2]
     have y1:=ae _ bC.out.h2 1 _ rfl;have g1:w7.frozen? ⟨X+1+1,1,none⟩=false:=by simp[World.frozen?,bC.out.h2]
     have y2:=ae _ bC.out.h2 2 _ rfl;have g2:w7.frozen? ⟨X+1+1,2,none⟩=false:=by simp[World.frozen?,bC.out.h2]
     have y3:=ae _ bC.out.h2 3 _ rfl;have g3:w7.frozen? ⟨X+1+1,3,none⟩=false:=by simp[World.frozen?,bC.out.h2]
     have y4:=ae _ bC.out.h3 0 _ rfl;have g4:w7.frozen? ⟨X+1+1+1,0,none⟩=false:=by simp[World.frozen?,bC.out.h3]
     gi_wp2_with fail;exact ga.out w7 bC.out vC.out (by rw[<-aO.out,Np.Ax jK.out gL.out H6.out lT.out (.inr np.out)]) _ rfl rfl
    have wD:decide (1000<dr)=false:=tQ Cs;have np:Hid (Np.gw at' dr=true):=jq (by simp only[Np.gw,Bool.and_eq_true,Qa];omega);have gG:known.length<=400:=by have h:=jK.out;unfold Np.oU at h;simp only[Bool.and_eq_true,Qa] at h;exact h.1
    have lR:Hid (∀ x∈known,Np.bo x.set=true):=jq (λx hx=>by
     have h:=jK.out;unfold Np.oU at h;simp only[Bool.and_eq_true,Bool.not_eq_true',List.any_eq_false] at h;simpa using h.2 x hx)
    have vP:Hid (RES=Np.fj known anchor at' dr (Np.f8 known t 8 qn.data.toList) []):=jq (by rw[<-aO.out,Np.xA jK.out gL.out H6.out lT.out yc.out np.out]);have eC:Hid (Np.ao qn.data.toList=true):=jq (by have h:=yc.out;simp only[Bool.and_eq_true] at h;exact h.1);gi_wp2_with fail;clear ww me wB wD Cp Cq Cr Cs aO ga;obtain⟨w8,dU⟩:=aRZ w7.drew;have cu:Below w7.heap.size w7 w8:=by rw[<-dU];exact (vQ _ _).drew
    have oN:w8.heap.size=w7.heap.size:=by rw[<-dU];rfl
    have yG:=jq oN;have Bh:=jq ((cu.block X (by omega)).trans Rz.out);have Eo:=aRQ vC cu;have vB:=jq cu;have hX8:X+1+1+1+1<=w8.heap.size:=by omega
    have b0:=ae _ Bh.out 0 _ rfl;have b1:=ae _ Bh.out 1 _ rfl;have b2:=ae _ Bh.out 2 _ rfl;have b3:=ae _ Bh.out 3 _ rfl;clear oN cu;refine I2 λa0 d9=>?_;have qr:=jq d9;have aG:=jq (show a0.eval (.tmp 0) = .slice A N C by rw[d9];rfl);have am:=jq (show a0.eval (.tmp 3) = .int .i64 at' by rw[d9];rfl);have aF:=jq (show a0.eval (.tmp 4) = .int .i64 dr by rw[d9];rfl);have aU:=jq (show a0.eval (.tmp 6) = .pointer (some ⟨X,0,none⟩) by rw[d9];rfl);have HM:=jq (show a0.tmps.size=97 by rw[d9];rfl);clear d9;refine wpIn_mono (Q:=Jd5 a0 X known A N C an 6 anchor.life aA aN aC at' dr w8) (wpIn_wide.2 (wp_region_any (by kernel_rfl) ?_)) ?_
    case refine_1=>
     try rw[show ({ heap:=w7.heap,tape:=w7.tape,drawn:=w7.drawn+1,os:=w7.os,output:=w7.output } : World)=w8 from dU]
     try rw[dU]
     clear dU;refine IE [2,7] 2 (D:=[0,1,3,4,5]) (val:=gX A N C an 6 anchor.life aA aN aC at' dr undef undef) oS rq (zI HM.out) (by kernel_rfl) ?_ ?_
     ·intro i aW bE o ho a' hb aV;have k0':=aTK hb aG.out;have k3':=aTK hb am.out;have k4':=aTK hb aF.out;have k6':=aTK hb aU.out;simp[Act.eval] at k0' k3' k4' k6'
      repeat' (rcases aW with _ | ⟨_,aW⟩)
      all_goals first
       | (exfalso;simp at bE;done)
       | (cases ho
          try simp[Act.eval,Region.binds,gX,kh] at aV
          refine eZ (by simp[Region.wanted]) ?_;simp[Oper.quietAt,Oper.quietUpon,execOp,go_sem,gX,k0',k3',k4',k6',b0,b1,b2,b3,aV])
     ·intro p nE
      repeat' (rcases nE with _ | ⟨_,nE⟩)
      ·intro f listed a' hH hr hv;have av1:=hv 1;simp[Act.eval,gX,kh] at av1;simp only[wpOp];simp[Region.wanted];refine .inl ?_;simp[Oper.wp,go_sem,av1];refine (Mi (.slice A N C) known w8 X (by omega) (HK.out.keep az Eo.out) (by omega)).mono ?_;rintro e wc ⟨r,kvs,rfl,cG,i7,sZ,eV,mS⟩;replace b0:=aQY mS b0;replace b1:=aQY mS b1;replace b2:=aQY mS b2;replace b3:=aQY mS b3;have yi:=jq (And.intro sZ eV);have py:=jq (And.intro cG i7);have fL:=jq mS;clear sZ eV mS cG i7;dsimp only;refine f9 7 (D:=[0,1,3,4,5,6,2]) (val:=gX A N C an 6 anchor.life aA aN aC at' dr (.map (some r)) undef) oS rq (hH.next oS rq hr) (by kernel_rfl) ?_ ?_
       ·intro i aW bE o ho a' hb aV;have k0':=aTK hb aG.out;have k3':=aTK hb am.out;have k4':=aTK hb aF.out;have k6':=aTK hb aU.out;simp[Act.eval] at k0' k3' k4' k6'
        repeat' (rcases aW with _ | ⟨_,aW⟩)
        all_goals first
         | (exfalso;simp at bE;done)
         | (cases ho
            try simp[Act.eval,Region.binds,gX,kh] at aV
            refine eZ (by simp[Region.wanted]) ?_;simp[Oper.quietAt,Oper.quietUpon,execOp,go_sem,gX,k0',k3',k4',k6',b0,b1,b2,b3,aV])
       ·intro f listed a' hH hr hv;simp only[wpOp];simp[Region.wanted];refine .inl ?_;simp[Oper.wp,execOp,go_sem];obtain⟨wd,cY⟩:=aRX (wc.alloc (.cells #[.slice none 0 0,.map none,.string ⟨#[]⟩,.int .i64 0,.int .i64 0,.slice none 0 0,.int .i64 0,.int .i64 0] 80));rw[<-cY];have aD:Hid (Below wc.heap.size wc wd):=jq (by rw[cY];exact aj _ _);have lL:Hid (wd.heap[wc.heap.size]?=some (.cells [Value.slice none 0 0,.map none,.string ⟨#[]⟩,.int .i64 0,.int .i64 0,.slice none 0 0,.int .i64 0,.int .i64 0].toArray 80 (0,0))):=jq (by rw[cY];exact heap_alloc_new _ _);have jf:Hid (wc.heap.size<wd.heap.size):=jq (by rw[cY];simp);replace b0:=(aD.out.cell (p:=⟨X,0,none⟩) (by dsimp only;have:=fL.out.size;omega)).trans b0;replace b1:=(aD.out.cell (p:=⟨X,1,none⟩) (by dsimp only;have:=fL.out.size;omega)).trans b1;replace b2:=(aD.out.cell (p:=⟨X,2,none⟩) (by dsimp only;have:=fL.out.size;omega)).trans b2;replace b3:=(aD.out.cell (p:=⟨X,3,none⟩) (by dsimp only;have:=fL.out.size;omega)).trans b3;clear cY;refine f9 8 (D:=[0,1,3,4,5,6,2,7]) (val:=gX A N C an 6 anchor.life aA aN aC at' dr (.map (some r)) (.pointer (some ⟨wc.heap.size,0,none⟩))) oS rq (hH.next oS rq hr) (by kernel_rfl) ?_ ?_
        ·intro i aW bE o ho a' hb aV;have k0':=aTK hb aG.out;have k3':=aTK hb am.out;have k4':=aTK hb aF.out;have k6':=aTK hb aU.out;simp[Act.eval] at k0' k3' k4' k6'
         repeat' (rcases aW with _ | ⟨_,aW⟩)
         all_goals first
          | (exfalso;simp at bE;done)
          | (cases ho
             try simp[Act.eval,Region.binds,gX,kh] at aV
             refine eZ (by simp[Region.wanted]) ?_;simp[Oper.quietAt,Oper.quietUpon,execOp,go_sem,gX,k0',k3',k4',k6',b0,b1,b2,b3,aV])
        ·intro f listed a' hH hr hv;have av6:=hv 6;have av7:=hv 7;simp[Act.eval,gX,kh] at av6 av7;simp only[wpOp];simp[Region.wanted];refine .inl ?_;have aS:=lL.out;have y0:=ae _ aS 0 _ rfl;have g0:wd.frozen? ⟨wc.heap.size,0,none⟩=false:=by simp[World.frozen?,aS]
         have y1:=ae _ aS 1 _ rfl;have g1:wd.frozen? ⟨wc.heap.size,1,none⟩=false:=by simp[World.frozen?,aS]
         have y2:=ae _ aS 2 _ rfl;have g2:wd.frozen? ⟨wc.heap.size,2,none⟩=false:=by simp[World.frozen?,aS]
         have y3:=ae _ aS 3 _ rfl;have g3:wd.frozen? ⟨wc.heap.size,3,none⟩=false:=by simp[World.frozen?,aS]
         have y4:=ae _ aS 4 _ rfl;have g4:wd.frozen? ⟨wc.heap.size,4,none⟩=false:=by simp[World.frozen?,aS]
         have y5:=ae _ aS 5 _ rfl;have g5:wd.frozen? ⟨wc.heap.size,5,none⟩=false:=by simp[World.frozen?,aS]
         have y6:=ae _ aS 6 _ rfl;have g6:wd.frozen? ⟨wc.heap.size,6,none⟩=false:=by simp[World.frozen?,aS]
         have y7:=ae _ aS 7 _ rfl;have g7:wd.frozen? ⟨wc.heap.size,7,none⟩=false:=by simp[World.frozen?,aS]
         simp[Oper.wp,execOp,go_sem,av6,av7,y0,y1,y2,y3,y4,y5,y6,y7,g0,g1,g2,g3,g4,g5,g6,g7];refine rI hH hr HM.out oS (by kernel_rfl) λfC=>?_
         ·rw[fC];refine⟨r,wc.heap.size,kvs,rfl,rfl,fL.out.size,by have:=jf.out;simpa [World.setCell] using this,py.out.1,by have:=jf.out;have:=py.out.2;simp[World.setCell];omega,by have:=py.out.2;omega,by simp[World.setCell,Array.getElem?_modify,lL.out],?_,?_,?_⟩
          ·exact (yi.out.1.keep aD.out py.out.2).keep' (by simp[World.setCell,Array.getElem?_modify,Nat.ne_of_gt py.out.2])
          ·exact yi.out.2.keep ((DL (n:=w8.heap.size) (aD.out.mono fL.out.size) fL.out.size _ _ _ _ _ _ _ _).aSZ)
          ·exact DL (fL.out.trans (aD.out.mono fL.out.size)) fL.out.size _ _ _ _ _ _ _ _
      ·intro f listed a' hH hr hv;simp only[wpOp];simp[Region.wanted];refine .inl ?_;simp[Oper.wp,execOp,go_sem];obtain⟨wd,cY⟩:=aRX (w8.alloc (.cells #[.slice none 0 0,.map none,.string ⟨#[]⟩,.int .i64 0,.int .i64 0,.slice none 0 0,.int .i64 0,.int .i64 0] 80));rw[<-cY];have aD:Hid (Below w8.heap.size w8 wd):=jq (by rw[cY];exact aj _ _);have lL:Hid (wd.heap[w8.heap.size]?=some (.cells [Value.slice none 0 0,.map none,.string ⟨#[]⟩,.int .i64 0,.int .i64 0,.slice none 0 0,.int .i64 0,.int .i64 0].toArray 80 (0,0))):=jq (by rw[cY];exact heap_alloc_new _ _);have jf:Hid (w8.heap.size<wd.heap.size):=jq (by rw[cY];simp);replace b0:=aQY aD.out b0;replace b1:=aQY aD.out b1;replace b2:=aQY aD.out b2;replace b3:=aQY aD.out b3;clear cY;refine f9 2 (D:=[0,1,3,4,5,7]) (val:=gX A N C an 6 anchor.life aA aN aC at' dr undef (.pointer (some ⟨w8.heap.size,0,none⟩))) oS rq (hH.next oS rq hr) (by kernel_rfl) ?_ ?_
       ·intro i aW bE o ho a' hb aV;have k0':=aTK hb aG.out;have k3':=aTK hb am.out;have k4':=aTK hb aF.out;have k6':=aTK hb aU.out;simp[Act.eval] at k0' k3' k4' k6'
        repeat' (rcases aW with _ | ⟨_,aW⟩)
        all_goals first
         | (exfalso;simp at bE;done)
         | (cases ho
            try simp[Act.eval,Region.binds,gX,kh] at aV
            refine eZ (by simp[Region.wanted]) ?_;simp[Oper.quietAt,Oper.quietUpon,execOp,go_sem,gX,k0',k3',k4',k6',b0,b1,b2,b3,aV])
       ·intro f listed a' hH hr hv;have av1:=hv 1;simp[Act.eval,gX,kh] at av1;simp only[wpOp];simp[Region.wanted];refine .inl ?_;simp[Oper.wp,go_sem,av1];refine (Mi (.slice A N C) known wd X (by have:=aD.out.size;omega) (HK.out.keep az (Eo.out.trans (aD.out.aSZ))) (by omega)).mono ?_;rintro e wc ⟨r,kvs,rfl,cG,i7,sZ,eV,mS⟩;replace b0:=(mS.cell (p:=⟨X,0,none⟩) (by dsimp only;have:=aD.out.size;omega)).trans b0;replace b1:=(mS.cell (p:=⟨X,1,none⟩) (by dsimp only;have:=aD.out.size;omega)).trans b1;replace b2:=(mS.cell (p:=⟨X,2,none⟩) (by dsimp only;have:=aD.out.size;omega)).trans b2;replace b3:=(mS.cell (p:=⟨X,3,none⟩) (by dsimp only;have:=aD.out.size;omega)).trans b3;have yi:=jq (And.intro sZ eV);have py:=jq (And.intro cG i7);have fL:=jq mS;clear sZ eV mS cG i7;dsimp only;refine f9 8 (D:=[0,1,3,4,5,6,2,7]) (val:=gX A N C an 6 anchor.life aA aN aC at' dr (.map (some r)) (.pointer (some ⟨w8.heap.size,0,none⟩))) oS rq (hH.next oS rq hr) (by kernel_rfl) ?_ ?_
        ·intro i aW bE o ho a' hb aV;have k0':=aTK hb aG.out;have k3':=aTK hb am.out;have k4':=aTK hb aF.out;have k6':=aTK hb aU.out;simp[Act.eval] at k0' k3' k4' k6'
         repeat' (rcases aW with _ | ⟨_,aW⟩)
         all_goals first
          | (exfalso;simp at bE;done)
          | (cases ho
             try simp[Act.eval,Region.binds,gX,kh] at aV
             refine eZ (by simp[Region.wanted]) ?_;simp[Oper.quietAt,Oper.quietUpon,execOp,go_sem,gX,k0',k3',k4',k6',b0,b1,b2,b3,aV])
        ·intro f listed a' hH hr hv;have av6:=hv 6;have av7:=hv 7;simp[Act.eval,gX,kh] at av6 av7;simp only[wpOp];simp[Region.wanted];refine .inl ?_;have aS:=(fL.out.block w8.heap.size jf.out).trans lL.out;have y0:=ae _ aS 0 _ rfl;have g0:wc.frozen? ⟨w8.heap.size,0,none⟩=false:=by simp[World.frozen?,aS]
         have y1:=ae _ aS 1 _ rfl;have g1:wc.frozen? ⟨w8.heap.size,1,none⟩=false:=by simp[World.frozen?,aS]
         have y2:=ae _ aS 2 _ rfl;have g2:wc.frozen? ⟨w8.heap.size,2,none⟩=false:=by simp[World.frozen?,aS]
         have y3:=ae _ aS 3 _ rfl;have g3:wc.frozen? ⟨w8.heap.size,3,none⟩=false:=by simp[World.frozen?,aS]
         have y4:=ae _ aS 4 _ rfl;have g4:wc.frozen? ⟨w8.heap.size,4,none⟩=false:=by simp[World.frozen?,aS]
         have y5:=ae _ aS 5 _ rfl;have g5:wc.frozen? ⟨w8.heap.size,5,none⟩=false:=by simp[World.frozen?,aS]
         have y6:=ae _ aS 6 _ rfl;have g6:wc.frozen? ⟨w8.heap.size,6,none⟩=false:=by simp[World.frozen?,aS]
         have y7:=ae _ aS 7 _ rfl;have g7:wc.frozen? ⟨w8.heap.size,7,none⟩=false:=by simp[World.frozen?,aS]
         simp[Oper.wp,execOp,go_sem,av6,av7,y0,y1,y2,y3,y4,y5,y6,y7,g0,g1,g2,g3,g4,g5,g6,g7];refine rI hH hr HM.out oS (by kernel_rfl) λfC=>?_
         ·rw[fC];refine⟨r,w8.heap.size,kvs,rfl,rfl,bQ _,by have:=jf.out;have:=fL.out.size;simp[World.setCell];omega,by have:=jf.out;have:=py.out.1;omega,by have:=py.out.2;simpa [World.setCell] using this,by have:=py.out.1;have:=jf.out;omega,by simp[World.setCell,Array.getElem?_modify,aS],?_,?_,?_⟩
          ·exact yi.out.1.keep' (by have h1:=py.out.1;have h2:=jf.out;simp[World.setCell,Array.getElem?_modify,show w8.heap.size≠r by omega])
          ·exact yi.out.2.keep (DL (vQ X wc) (by omega) _ _ _ _ _ _ _ _)
          ·exact DL (aD.out.trans (fL.out.mono aD.out.size)) (bQ _) _ _ _ _ _ _ _ _
    rintro ex a' w9 ⟨r,E,kvs,rfl,rfl,hE1,hE2,cG,i7,hrE,NW,sZ,eV,bM⟩;rw[qr.out];simp[nb,Act.put,gX,kh];obtain⟨G,hG⟩:=aRZ w9.heap.size;have Hp:=bM.size;have Rt:=aRQ Eo bM;have Tg:=jq (bC.out.keep (vB.out.trans (bM.mono vB.out.size)) (by omega));have RC:=jq ((vB.out.trans (bM.mono vB.out.size)).block (X+1) (by omega) |>.trans RB.out);obtain⟨w10,ri⟩:=aRZ (w9.alloc (.cells #[.slice none 0 0] 22));have Pc:w10.heap.size=G+1:=by rw[<-ri,<-hG];simp
    have gF:Below G w9 w10:=by rw[<-ri,<-hG];exact aj _ _
    have rM:Hid (w10.heap[G]?=some (.cells [Value.slice none 0 0].toArray 22 (0,0))):=jq (by rw[<-ri,<-hG];exact heap_alloc_new _ _);have qw:=jq ((gF.block E (by omega)).trans NW);have Ro:=aRQ Rt gF;have Td:=jq (Tg.out.keep gF (by omega));have SY:=jq (sZ.keep gF (by omega));have Ry:=jq (eV.keep (gF.aSZ));have JD:=jq ((gF.block (X+1) (by omega)).trans RC.out);have j0:=ae _ qw.out 0 _ rfl;have j1:=ae _ qw.out 1 _ rfl;have j2:=ae _ qw.out 2 _ rfl;have j3:=ae _ qw.out 3 _ rfl;have j4:=ae _ qw.out 4 _ rfl;have j5:=ae _ qw.out 5 _ rfl;have j6:=ae _ qw.out 6 _ rfl;have j7:=ae _ qw.out 7 _ rfl;have q0:=ae _ JD.out 0 _ rfl;have q1:=ae _ JD.out 1 _ rfl;have yE:=jq Pc;clear bM NW sZ eV gF Pc;gi_wp2_with fail;clear ri;gi_wp2_with fail;clear j0 j1 j2 j3 j4 j5 j6 j7 q0 q1;refine⟨trivial,rfl,?_⟩;refine (callsIn_wide.2 (akZ (.slice A N C) (.slice aA aN aC) r an qn 6 anchor.life at' dr t w10 ⟨_,_,_,rfl⟩ ⟨_,_,_,rfl⟩)).mono ?_;rintro e w11 ⟨rfl,jy⟩;have fR:Below w10.heap.size w10 w11:=by rw[jy];exact ((vQ _ w10).alloc (bQ _) _).alloc (by simp) _
    have a6X:w11.heap.size=G+1+1+1:=by rw[jy];simp[yE.out]
    have zD:w11.heap[G+1]?=some (.cells [Value.slice A N C,.map (some r),.string an,.int .i64 6,.int .i64 anchor.life,.slice aA aN aC,.int .i64 at',.int .i64 dr].toArray 80 (0,0)):=by
     rw[jy,<-yE.out];exact (Below.heap_alloc _ _ _ (by simp)).trans (heap_alloc_new _ _)
    have zE:w11.heap[G+1+1]?=some (.cells [Value.string qn,.int .i64 t].toArray 27 (0,0)):=by
     have h1:=heap_alloc_new (w10.alloc (.cells #[.slice A N C,.map (some r),.string an,.int .i64 6,.int .i64 anchor.life,.slice aA aN aC,.int .i64 at',.int .i64 dr] 80)) (.cells #[.string qn,.int .i64 t] 27);rw[World.size_alloc,yE.out] at h1;rw[jy];exact h1
    have hZ:=yE.out;have AW:=aRQ Ro fR;have FY:=akJ (.slice A N C) (.slice aA aN aC) known (by omega) lR.out r kvs an qn eC.out 6 anchor.life at' dr t (G+1) (G+1+1) X w11 (dK.out.keep AW.out) (HK.out.keep az AW.out) ⟨_,_,_,rfl⟩ (by omega) (by omega) (SY.out.keep fR (by omega)) (Ry.out.keep (fR.aSZ)) (by omega) (by omega) (by omega) zD zE;have Te:=jq (Td.out.keep fR (by omega));have RK:=jq ((fR.block E (by omega)).trans qw.out);have RL:=jq ((fR.block G (by omega)).trans rM.out);obtain⟨LS,sI⟩:=aRZ (Np.f8 known t 8 qn.data.toList);have cm:Hid (LS.length<=410):=jq (by rw[<-sI];have:=Np.PJ known t 8 qn.data.toList;omega);have cM:Hid (∀ s,Np.Found.set s∈LS->s∈known):=jq (λs hs=>Np.Hz 8 qn.data.toList (by rw[sI];exact hs));rw[sI] at vP FY;have EA:=jq FY;rw[hZ];clear jy zD zE FY sI hZ fR yE yG;gi_wp2_with fail;refine aPQ (Dr:=λk=>k<X\/k=G+1\/k=r) (O:=λk=>k=G+1+1) (w0:=w11) (first:=#[]) (captured:=#[.pointer (some ⟨G+1,0,none⟩),.pointer (some ⟨G+1+1,0,none⟩)]) (gf:=90) rfl Xc (mk:=λy=>#[y,.pointer (some ⟨G+1,0,none⟩),.pointer (some ⟨G+1+1,0,none⟩)]) (λ_=>rfl)
     EA.out (dY.refl λk e=>by have:=HX.out;omega) (dY.refl λk e=>by omega) (λ_=>rfl) (JI known anchor at' dr LS X E G [Value.slice A N C,.map (some r),.string an,.int .i64 6,.int .i64 anchor.life,.slice aA aN aC,.int .i64 at',.int .i64 dr] w) (JX known anchor at' dr LS X w)
     (aeQ (by omega) (by omega) (by omega) (by rw[HX.out];exact bQ _) (by omega) (by omega)) (λc=>aeZ (G:=G) (by omega) (by omega) (by rw[HX.out];exact bQ _) (by omega) c)
     (λk=>k=X+1+1\/k=X+1+1+1\/k=G) (by intro k h;omega) (by intro k h;omega) (by intro k h;omega)
     ⟨.slice none 0 0,[],⟨.inl rfl,.inr (.inl rfl),.inr (.inr rfl),λg h=>by simp[Value.ownBlock] at h,λk h=>by omega,RL.out,Te.out,RK.out,dN.nil _,rfl,λrest h=>by rw[h];rfl,AW.out⟩⟩ ?round ?done ?stop
    case stop=>
     rintro D c pre S W hD df aP gU ⟨rfl,Ys,Yt,k,q,q2,cd,ho,hv,hq,iA⟩ hK;have h2:X+1+1≠D:=λe=>df (e ▸ Ys);have h3:X+1+1+1≠D:=λe=>df (e ▸ Yt);have lO:=jq hK;have EP:=jq (ho.same (W':=W.putObj D (.deferred none)) (zQ h2) (zQ h3));have tD:Hid (Below X w (W.putObj D (.deferred none))):=jq (ib iA (by omega) _);have rX:Hid (RES=(⟨k,(q.data.toList,q2),[]⟩,cd)):=jq (by rw[vP.out];exact hv);clear hK ho iA hv;gi_wp2_with fail;refine iw lO.out (Hu EP.out rfl rfl) ?_;rw[rX.out];exact⟨q,none,0,0,rfl,rfl,hq,λ_ _=>g8 _ _,by rw[HX.out];exact tD.out⟩
    case done=>
     rintro xs D S W sU hD df aP ⟨gv,good,h⟩ hK;obtain⟨n,hn⟩:=aRZ good.length;obtain⟨oA,oc,rfl⟩:=h.ow.formN hn;have OD:n<=410:=by
      have h1:=cm.out;rw[<-sU.1,List.length_map] at h1;have h2:=h.len;omega
     have h2:D≠X+1+1:=λe=>df (e ▸ h.s2);have h3:D≠X+1+1+1:=λe=>df (e ▸ h.s3);have lO:Hid ((lp W X 1 ⟨#[]⟩ 0 (.slice oA n oc) 0).heap[D]?=some (.deferred (some []))):=jq ((If _ _ _ _ _ _ _ h2 h3).trans hK);have EP:Hid (Outs X ((lp W X 1 ⟨#[]⟩ 0 (.slice oA n oc) 0).putObj D (.deferred none)) 1 ⟨#[]⟩ 0 (.slice oA n oc) 0):=jq ((h.out.out 1 ⟨#[]⟩ 0 (.slice oA n oc) 0).same (zQ (Ne.symm h2)) (zQ (Ne.symm h3)));have tD:Hid (Below X w ((lp W X 1 ⟨#[]⟩ 0 (.slice oA n oc) 0).putObj D (.deferred none))):=jq (ib (AC h.bel _ _ _ _ _) (by omega) _);have T0:Hid (jI aB 5 0 w.heap.size ((lp W X 1 ⟨#[]⟩ 0 (.slice oA n oc) 0).putObj D (.deferred none)) (.slice oA n oc) good):=jq (by
      have hr:=DM (RdStep.refl S W) h.s2 h.s3 1 ⟨#[]⟩ 0 (.slice oA n oc) 0;have hf:dN aB 5 44 (G+1) (JMs X G (.slice oA n oc) S) ((lp W X 1 ⟨#[]⟩ 0 (.slice oA n oc) 0).putObj D (.deferred none)) (.slice oA n oc) good:=by
       refine h.ow.leaves az kj bf ⟨hr.os,hr.tape,hr.output,by simpa using hr.size,λi hi hm=>⟨hm,?_⟩⟩ (λg hg=>⟨?_,.inr (.inr (.inr (.inl hg)))⟩)
       ·have hs:S i:=Classical.byContradiction λhs=>hm (.inr (.inr (.inr (.inr hs))));exact (zQ (λe=>df (by rw[<-e];exact hs))).trans (If _ _ _ _ _ _ _ (λe=>hm (.inr (.inl e))) (λe=>hm (.inr (.inr (.inl e)))))
       ·have hs:=h.so g hg;have hl:=(h.ow.lt g hg).1;exact (zQ (λe=>df (by rw[<-e];exact hs))).trans (If _ _ _ _ _ _ _ (by omega) (by omega))
      exact λM hM=>hf.slr_sans kj bf (λk hk=>by
       have h1:=(hM k hk).2;rw[HX.out] at h1;refine⟨.inr (.inr (.inr (.inr (λhs=>by have:=h.sb k hs;omega)))),λe=>by have:=(h.ow.lt k e).1;omega⟩) (by rw[hn];omega))
     have rX:Hid (RES=(⟨1,([],0),good⟩,0)):=jq (by rw[vP.out,h.val [] (by rw[sU.1];simp)];rfl);have c0:=ae _ h.cg 0 _ rfl;have y0:=ae _ h.out.h2 0 _ rfl;have g0:W.frozen? ⟨X+1+1,0,none⟩=false:=by simp[World.frozen?,h.out.h2]
     have y1:=ae _ h.out.h2 1 _ rfl;have g1:W.frozen? ⟨X+1+1,1,none⟩=false:=by simp[World.frozen?,h.out.h2]
     have y2:=ae _ h.out.h2 2 _ rfl;have g2:W.frozen? ⟨X+1+1,2,none⟩=false:=by simp[World.frozen?,h.out.h2]
     have y3:=ae _ h.out.h2 3 _ rfl;have g3:W.frozen? ⟨X+1+1,3,none⟩=false:=by simp[World.frozen?,h.out.h2]
     have y4:=ae _ h.out.h3 0 _ rfl;have g4:W.frozen? ⟨X+1+1+1,0,none⟩=false:=by simp[World.frozen?,h.out.h3]
     clear sU h hK hn;gi_wp2_with fail;refine iw lO.out (Hu EP.out rfl rfl) ?_;rw[rX.out];exact⟨⟨#[]⟩,oA,n,oc,rfl,rfl,by decide,T0.out,by rw[HX.out];exact tD.out⟩
    case round=>
     rintro l0 pre ⟨xv,xf⟩ S W bw hI dz;obtain⟨gv,good,h0⟩:=hI;have nk:Hid (∀ g,gv.ownBlock=some g->g<W.heap.size):=jq (λg hg=>dz g (h0.so g hg));have Z5:G<W.heap.size:=dz G h0.sg;have uN:pre.length+1<=410:=by
      have h1:=bw.1.length_le;have h2:=cm.out;simp at h1;omega
     obtain⟨rest,ey⟩:=bw.1;have BA:Hid (LS=pre.map (·.2)++xf::rest):=jq (by rw[<-ey];simp);have Df:=bw.2 (xv,xf) (by simp);dsimp only at Df;have pw:=jq bw;clear ey bw
     cases xf with
     | loop=>
      obtain rfl:xv=_:=Df;gi_wp2_with fail;obtain⟨w1t,jz⟩:=aRZ (W.alloc (.cells #[.int .i64 2,.string ⟨#[]⟩,.int .i64 0,.int .i64 0,.slice none 0 0,.slice none 0 0,.string ⟨#[]⟩,.int .i64 0] 85));rw[jz];have ot:Below W.heap.size W w1t:=by rw[<-jz];exact aj _ _
      have sK:w1t.heap[W.heap.size]?=some (.cells [Value.int .i64 2,.string ⟨#[]⟩,.int .i64 0,.int .i64 0,.slice none 0 0,.slice none 0 0,.string ⟨#[]⟩,.int .i64 0].toArray 85 (0,0)):=by rw[<-jz];exact heap_alloc_new _ _
      have oP:w1t.heap.size=W.heap.size+1:=by rw[<-jz];simp
      have H1:=jq (h0.box ot (T:=W.heap.size) (by omega) (by omega));have yx:=jq sK;have iJ:=jq ot;have jk:=jq oP;have rY:=jq dz;clear ot sK oP h0 dz jz;refine⟨λk=>S k\/k=W.heap.size,RdStep.of_below iJ.out,λk e=>e.imp id (λh=>Nat.le_of_eq h.symm),λk e=>e.elim (λe=>by have h1:=rY.out k e;have h2:=jk.out;omega) (λe=>by have h2:=jk.out;omega),?_⟩;intro l W₂ aq;have ei:=(aq.keep W.heap.size (by have:=jk.out;omega) (.inr (.inr rfl))).trans yx.out;have h:=H1.out.it (B:=w11.heap.size) (bq:=G+1+1) (by omega) (by omega) (by omega) (by rw[HX.out];exact bQ _) (by omega) (by omega) aq;have eH:Hid (∀ k,(S k\/k=W.heap.size)->k<W₂.heap.size):=jq (λk e=>e.elim (λe=>by have h1:=rY.out k e;have h2:=jk.out;have h3:=aq.size;omega) (λe=>by have h2:=jk.out;have h3:=aq.size;omega));have cr:W.heap.size<W₂.heap.size:=eH.out _ (.inr rfl);have H:=jq h;have p0:=ae _ ei 0 _ rfl;have p1:=ae _ ei 1 _ rfl;have p2:=ae _ ei 2 _ rfl;have p3:=ae _ ei 3 _ rfl;have p4:=ae _ ei 4 _ rfl;have p5:=ae _ ei 5 _ rfl;have p6:=ae _ ei 6 _ rfl;have p7:=ae _ ei 7 _ rfl;have E4:=jq ei;clear aq h ei;have y0:=ae _ H.out.out.h2 0 _ rfl;have g0:W₂.frozen? ⟨X+1+1,0,none⟩=false:=by simp[World.frozen?,H.out.out.h2]
      have y1:=ae _ H.out.out.h2 1 _ rfl;have g1:W₂.frozen? ⟨X+1+1,1,none⟩=false:=by simp[World.frozen?,H.out.out.h2]
      have y2:=ae _ H.out.out.h2 2 _ rfl;have g2:W₂.frozen? ⟨X+1+1,2,none⟩=false:=by simp[World.frozen?,H.out.out.h2]
      have y3:=ae _ H.out.out.h2 3 _ rfl;have g3:W₂.frozen? ⟨X+1+1,3,none⟩=false:=by simp[World.frozen?,H.out.out.h2]
      have y4:=ae _ H.out.out.h3 0 _ rfl;have g4:W₂.frozen? ⟨X+1+1+1,0,none⟩=false:=by simp[World.frozen?,H.out.out.h3]
      gi_wp2_with fail;refine⟨_,DM (RdStep.refl _ W₂) H.out.s2 H.out.s3 0 ⟨#[]⟩ 0 (.slice none 0 0) 33,λk e=>.inl e,λk e=>by have h1:=eH.out k e;have h3:=Ig W₂ X 0 ⟨#[]⟩ 0 (.slice none 0 0) 33;exact lqQ h1 (Nat.le_of_eq h3.symm),rfl,H.out.s2,H.out.s3,0,⟨#[]⟩,0,33,H.out.out.out 0 ⟨#[]⟩ 0 (.slice none 0 0) 33,?_,by decide,AC H.out.bel _ _ _ _ _⟩;rw[H.out.val _ BA.out];rfl
     | miss mn mt=>
      obtain⟨qm,OJ,cA,rfl⟩:=Df;have vO:=jq (And.intro OJ cA);clear OJ cA;gi_wp2_with fail;obtain⟨w1t,jz⟩:=aRZ (W.alloc (.cells #[.int .i64 1,.string ⟨#[]⟩,.int .i64 0,.int .i64 0,.slice none 0 0,.slice none 0 0,.string qm,.int .i64 mt] 85));rw[jz];have ot:Below W.heap.size W w1t:=by rw[<-jz];exact aj _ _
      have sK:w1t.heap[W.heap.size]?=some (.cells [Value.int .i64 1,.string ⟨#[]⟩,.int .i64 0,.int .i64 0,.slice none 0 0,.slice none 0 0,.string qm,.int .i64 mt].toArray 85 (0,0)):=by rw[<-jz];exact heap_alloc_new _ _
      have oP:w1t.heap.size=W.heap.size+1:=by rw[<-jz];simp
      have H1:=jq (h0.box ot (T:=W.heap.size) (by omega) (by omega));have yx:=jq sK;have iJ:=jq ot;have jk:=jq oP;have rY:=jq dz;clear ot sK oP h0 dz jz;refine⟨λk=>S k\/k=W.heap.size,RdStep.of_below iJ.out,λk e=>e.imp id (λh=>Nat.le_of_eq h.symm),λk e=>e.elim (λe=>by have h1:=rY.out k e;have h2:=jk.out;omega) (λe=>by have h2:=jk.out;omega),?_⟩;intro l W₂ aq;have ei:=(aq.keep W.heap.size (by have:=jk.out;omega) (.inr (.inr rfl))).trans yx.out;have h:=H1.out.it (B:=w11.heap.size) (bq:=G+1+1) (by omega) (by omega) (by omega) (by rw[HX.out];exact bQ _) (by omega) (by omega) aq;have eH:Hid (∀ k,(S k\/k=W.heap.size)->k<W₂.heap.size):=jq (λk e=>e.elim (λe=>by have h1:=rY.out k e;have h2:=jk.out;have h3:=aq.size;omega) (λe=>by have h2:=jk.out;have h3:=aq.size;omega));have cr:W.heap.size<W₂.heap.size:=eH.out _ (.inr rfl);have H:=jq h;have p0:=ae _ ei 0 _ rfl;have p1:=ae _ ei 1 _ rfl;have p2:=ae _ ei 2 _ rfl;have p3:=ae _ ei 3 _ rfl;have p4:=ae _ ei 4 _ rfl;have p5:=ae _ ei 5 _ rfl;have p6:=ae _ ei 6 _ rfl;have p7:=ae _ ei 7 _ rfl;have E4:=jq ei;clear aq h ei;have y0:=ae _ H.out.out.h2 0 _ rfl;have g0:W₂.frozen? ⟨X+1+1,0,none⟩=false:=by simp[World.frozen?,H.out.out.h2]
      have y1:=ae _ H.out.out.h2 1 _ rfl;have g1:W₂.frozen? ⟨X+1+1,1,none⟩=false:=by simp[World.frozen?,H.out.out.h2]
      have y2:=ae _ H.out.out.h2 2 _ rfl;have g2:W₂.frozen? ⟨X+1+1,2,none⟩=false:=by simp[World.frozen?,H.out.out.h2]
      have y3:=ae _ H.out.out.h2 3 _ rfl;have g3:W₂.frozen? ⟨X+1+1,3,none⟩=false:=by simp[World.frozen?,H.out.out.h2]
      have y4:=ae _ H.out.out.h3 0 _ rfl;have g4:W₂.frozen? ⟨X+1+1+1,0,none⟩=false:=by simp[World.frozen?,H.out.out.h3]
      gi_wp2_with fail;refine⟨_,DM (RdStep.refl _ W₂) H.out.s2 H.out.s3 3 qm mt (.slice none 0 0) 0,λk e=>.inl e,λk e=>by have h1:=eH.out k e;have h3:=Ig W₂ X 3 qm mt (.slice none 0 0) 0;exact lqQ h1 (Nat.le_of_eq h3.symm),rfl,H.out.s2,H.out.s3,3,qm,mt,0,H.out.out.out 3 qm mt (.slice none 0 0) 0,?_,vO.out.2,AC H.out.bel _ _ _ _ _⟩;rw[H.out.val _ BA.out];rw[vO.out.1];rfl
     | set y=>
      obtain⟨ee,nA,rfl⟩:=Df;obtain⟨ys,dA,dn,dc,gA,gn,gc,rfl,Pb,Dw,wM,kV,ZY,ZZ⟩:=gZ nA;have Bt:=jq nA;have jj:=jq (And.intro Pb (And.intro Dw (And.intro wM kV)));clear nA Pb Dw wM kV ZY ZZ;gi_wp2_with fail;obtain⟨w1t,jz⟩:=aRZ (W.alloc (.cells #[.int .i64 0,.string ys,.int .i64 y.set.type,.int .i64 y.set.life,.slice dA dn dc,.slice gA gn gc,.string ⟨#[]⟩,.int .i64 0] 85));rw[jz];have ot:Below W.heap.size W w1t:=by rw[<-jz];exact aj _ _
      have sK:w1t.heap[W.heap.size]?=some (.cells [Value.int .i64 0,.string ys,.int .i64 y.set.type,.int .i64 y.set.life,.slice dA dn dc,.slice gA gn gc,.string ⟨#[]⟩,.int .i64 0].toArray 85 (0,0)):=by rw[<-jz];exact heap_alloc_new _ _
      have oP:w1t.heap.size=W.heap.size+1:=by rw[<-jz];simp
      have H1:=jq (h0.box ot (T:=W.heap.size) (by omega) (by omega));have yx:=jq sK;have iJ:=jq ot;have jk:=jq oP;have rY:=jq dz;clear ot sK oP h0 dz jz;refine⟨λk=>S k\/k=W.heap.size,RdStep.of_below iJ.out,λk e=>e.imp id (λh=>Nat.le_of_eq h.symm),λk e=>e.elim (λe=>by have h1:=rY.out k e;have h2:=jk.out;omega) (λe=>by have h2:=jk.out;omega),?_⟩;intro l W₂ aq;have ei:=(aq.keep W.heap.size (by have:=jk.out;omega) (.inr (.inr rfl))).trans yx.out;have h:=H1.out.it (B:=w11.heap.size) (bq:=G+1+1) (by omega) (by omega) (by omega) (by rw[HX.out];exact bQ _) (by omega) (by omega) aq;have eH:Hid (∀ k,(S k\/k=W.heap.size)->k<W₂.heap.size):=jq (λk e=>e.elim (λe=>by have h1:=rY.out k e;have h2:=jk.out;have h3:=aq.size;omega) (λe=>by have h2:=jk.out;have h3:=aq.size;omega));have cr:W.heap.size<W₂.heap.size:=eH.out _ (.inr rfl);have H:=jq h;have p0:=ae _ ei 0 _ rfl;have p1:=ae _ ei 1 _ rfl;have p2:=ae _ ei 2 _ rfl;have p3:=ae _ ei 3 _ rfl;have p4:=ae _ ei 4 _ rfl;have p5:=ae _ ei 5 _ rfl;have p6:=ae _ ei 6 _ rfl;have p7:=ae _ ei 7 _ rfl;have E4:=jq ei;clear aq h ei;have j0:=ae _ H.out.ce 0 _ rfl;have j1:=ae _ H.out.ce 1 _ rfl;have j2:=ae _ H.out.ce 2 _ rfl;have j3:=ae _ H.out.ce 3 _ rfl;have j4:=ae _ H.out.ce 4 _ rfl;have j5:=ae _ H.out.ce 5 _ rfl;have j6:=ae _ H.out.ce 6 _ rfl;have j7:=ae _ H.out.ce 7 _ rfl;obtain⟨m,hm⟩:=aRZ good.length;obtain⟨oA,oc,rfl⟩:=H.out.ow.formN hm;have no:=jq hm;have hm4:m<=410:=by have:=H.out.len;omega
      have LK:Hid (aB w X [.string ys,.int .i64 y.set.type,.int .i64 y.set.life,.slice dA dn dc,.slice gA gn gc] y):=jq (Is Bt.out AW.out);clear hm;gi_wp2_with fail;clear j0 j1 j2 j3 j4 j5 j6 j7;refine⟨trivial,rfl,?_⟩;have hv:=aKK (.slice A N C) (.slice aA aN aC) known (by omega) r an anchor fJ.out mj at' dr y [.string ys,.int .i64 y.set.type,.int .i64 y.set.life,.slice dA dn dc,.slice gA gn gc] W₂ ((dK.out.keep H.out.bel).more (by omega)) ((HK.out.keep az H.out.bel).more bf (by omega)) ((qs.out.keep br H.out.bel).more bB (by omega)) (bf _ _ _ _ _ (az _ _ _ _ _ LK.out H.out.bel) (by omega));rw[H6.out] at hv;refine (CallsIn.inRound l (callsIn_wide.2 hv)).mono ?_;clear hv;rintro e wl ⟨ql,rfl,Ac,OI,dB⟩;obtain⟨P1,F4⟩:=aRZ ((Np.fI known anchor at' dr y).1);obtain⟨P3,F5⟩:=aRZ ((Np.fI known anchor at' dr y).2.2);rw[F4,F5];have vK:=jq (And.intro F4 (And.intro F5 (And.intro Ac OI)));have Dx:=dB.size;obtain⟨wq,Dq⟩:=aRZ (wl.alloc (.cells #[.string ql,.int .i64 P3] 27));have dg:Below wl.heap.size wl wq:=by rw[<-Dq];exact aj _ _
      have hzq:=dg.size;have rK:Hid (Below W₂.heap.size W₂ wq):=jq (dB.trans (dg.mono Dx));have pq:=bD (r:=[.string ql,.int .i64 P3]) rfl Dq;have k0:=pq 0 _ rfl;have k1:=pq 1 _ rfl;have nW:=jq (H.out.out.keep rK.out (eH.out _ H.out.s3));have E3:=jq ((rK.out.block W.heap.size cr).trans E4.out);have Sp:=jq ((rK.out.block G (eH.out _ H.out.sg)).trans H.out.cg);clear dB dg pq F4 F5 Ac OI p0 p1 p2 p3 p4 p5 p6 p7;by_cases bp:P1=1
      case neg=>
       have rg:(P1 == 1)=false:=by simpa using bp
       have tP:=jq bp;clear bp;have y0:=ae _ nW.out.h2 0 _ rfl;have g0:wq.frozen? ⟨X+1+1,0,none⟩=false:=by simp[World.frozen?,nW.out.h2]
       have y1:=ae _ nW.out.h2 1 _ rfl;have g1:wq.frozen? ⟨X+1+1,1,none⟩=false:=by simp[World.frozen?,nW.out.h2]
       have y2:=ae _ nW.out.h2 2 _ rfl;have g2:wq.frozen? ⟨X+1+1,2,none⟩=false:=by simp[World.frozen?,nW.out.h2]
       have y3:=ae _ nW.out.h2 3 _ rfl;have g3:wq.frozen? ⟨X+1+1,3,none⟩=false:=by simp[World.frozen?,nW.out.h2]
       have y4:=ae _ nW.out.h3 0 _ rfl;have g4:wq.frozen? ⟨X+1+1+1,0,none⟩=false:=by simp[World.frozen?,nW.out.h3]
       gi_wp2_with fail;clear Dq;gi_wp2_with fail;refine⟨_,DM (RdStep.of_below rK.out) H.out.s2 H.out.s3 P1 ql P3 (.slice none 0 0) 0,λk e=>.inl e,λk e=>by have h1:=eH.out k e;have h3:=Ig wq X P1 ql P3 (.slice none 0 0) 0;exact lqQ (lqQ h1 rK.out.size) (Nat.le_of_eq h3.symm),rfl,H.out.s2,H.out.s3,P1,ql,P3,0,nW.out.out P1 ql P3 (.slice none 0 0) 0,?_,vK.out.2.2.2,AC (H.out.bel.trans (rK.out.aSZ)) _ _ _ _ _⟩;rw[H.out.val _ BA.out,Np.fj,Qc (by rw[vK.out.1];exact tP.out),vK.out.1,vK.out.2.2.1,<-vK.out.2.1]
       done
      have rg:(P1 == 1)=true:=by simpa using bp
      have tP:Hid ((Np.fI known anchor at' dr y).1=1):=jq (by rw[vK.out.1];exact bp);clear bp;gi_wp2_with fail;clear Dq;gi_wp2_with fail;obtain⟨wU,Ar⟩:=aRZ wq.drew;have CJ:Below wq.heap.size wq wU:=by rw[<-Ar];exact (vQ _ _).drew
      have hzU:wU.heap.size=wq.heap.size:=by rw[<-Ar];rfl
      have kw:Hid (Below W₂.heap.size W₂ wU):=jq (rK.out.trans (CJ.mono rK.out.size));have wH:=(CJ.block W.heap.size (by omega)).trans E3.out;have FW:=(CJ.block G (by omega)).trans Sp.out;have f1:=ae _ wH 1 _ rfl;have f2:=ae _ wH 2 _ rfl;have f3:=ae _ wH 3 _ rfl;have f4:=ae _ wH 4 _ rfl;have f5:=ae _ wH 5 _ rfl;have c0:=ae _ FW 0 _ rfl;have Sr:=jq FW;have YB:W₂.heap.size<=wU.heap.size:=by omega
      obtain⟨M,hM⟩:∃ M:Nat->Prop,M=λk=>JMs X G (.slice oA m oc) (λk=>S k\/k=W.heap.size) k/\k<W₂.heap.size:=⟨_,rfl⟩;have S8:=jq hM;have S6:Hid (∀ k,M k->k<W₂.heap.size):=jq (λk e=>by rw[hM] at e;exact e.2);have Tj:Hid (dN aB 5 44 (G+1) M wU (.slice oA m oc) good):=jq (by rw[hM];exact (H.out.ow.trim az kj bf).keep az kj bf kw.out);have gh:Hid (SlR bS 3 wU wU.heap.size (.slice dA dn dc) y.set.data/\SlR dw 6 wU wU.heap.size (.slice gA gn gc) y.sigs):=jq (by
       obtain⟨s',v',u',_,_,h3,h4,h5⟩:=LK.out;simp only[List.cons.injEq,and_true] at h5;obtain⟨_,_,_,rfl,rfl⟩:=h5;have bH:Below X w wU:=H.out.bel.trans (kw.out.aSZ);exact⟨(h3.keep br bH).more bB (by omega),(h4.keep cK bH).more da (by omega)⟩)
      have di:=pz.out y (cM.out y (by rw[BA.out];simp));have vT:=jq di;obtain⟨is0,ZD,ZI,oJ,i8⟩:=info_parts Tryz.infoSgn5;have Fc:=jq cr;clear CJ wH FW hM di k0 k1;refine I2 λa0 d9=>?_;have qr:=jq d9;have fK:=jq (show a0.eval (.tmp 13) = .pointer (some ⟨G,0,none⟩) by rw[d9];rfl);have eG:=jq (show a0.eval (.tmp 14) = .pointer (some ⟨W.heap.size,0,none⟩) by rw[d9];rfl);have HM:=jq (show a0.tmps.size=97 by rw[d9];rfl);clear d9;obtain⟨T,hT⟩:=aRZ W.heap.size;rw[hT] at eG f1 f2 f3 f4 f5;have hT2:T<wU.heap.size:=by omega
      refine I4 (by kernel_rfl) (by kernel_rfl) (by rintro⟨_,_,h⟩;exact h) ?_
      try rw[show ({ heap:=wq.heap,tape:=wq.tape,drawn:=wq.drawn+1,os:=wq.os,output:=wq.output } : World)=wU from Ar]
      try rw[Ar]
      clear Ar;refine f9 3 (D:=[0,1,2]) (val:=jB T oA m oc ys y.set.type y.set.life dA dn dc gA gn gc undef undef undef) tk vh (zI HM.out) (by kernel_rfl) ?_ ?_
      ·intro i aW bE o ho a' hb aV;have k13':=aTK hb fK.out;have k14':=aTK hb eG.out;simp[Act.eval] at k13' k14'
       repeat' (rcases aW with _ | ⟨_,aW⟩)
       all_goals first
        | (exfalso;simp at bE;done)
        | (cases ho
           try simp[Act.eval,Region.binds,jB,mC] at aV
           refine eZ (by simp[Region.wanted]) ?_;simp[Oper.quietAt,Oper.quietUpon,execOp,go_sem,jB,k13',k14',f1,f2,f3,f4,f5,c0,aV])
      ·intro f listed a' hH hr hv;have av2:=hv 2;simp[Act.eval,jB,mC] at av2;simp only[wpOp];simp[Region.wanted];refine .inl ?_;simp[Oper.wp,go_sem,av2];refine (L5 ys y.set.type y.set.life _ y.set.data _ y.sigs (by have:=vT.out.1;omega) (by have:=vT.out.2;omega) wU gh.out.1 gh.out.2).mono ?_;rintro e wC ⟨dv2,gv2,rfl,jr,mP⟩;have Pe:=mP.size;replace f1:=aQY mP f1;replace f2:=aQY mP f2;replace f3:=aQY mP f3;replace f4:=aQY mP f4;replace f5:=aQY mP f5;replace c0:=aQY mP c0;have vH:Hid (D8 wU.heap.size wC dv2 gv2 y.set.data y.sigs):=jq jr;obtain⟨dA2,dc2,rfl,_,_⟩:=fc ((jr (λ_=>False) (λ_ e=>e.elim)).1);obtain⟨gA2,gc2,rfl,_,_⟩:=fc ((jr (λ_=>False) (λ_ e=>e.elim)).2);rw[jj.out.2.2.1,jj.out.2.2.2] at vH |-;have fL:=jq mP;clear jr mP;dsimp only;refine f9 4 (D:=[0,1,2,3]) (val:=jB T oA m oc ys y.set.type y.set.life dA dn dc gA gn gc (.agg #[.string ys,.int .i64 y.set.type,.int .i64 y.set.life,.slice dA2 dn dc2,.slice gA2 gn gc2]) undef undef) tk vh (hH.next tk vh hr) (by kernel_rfl) ?_ ?_
       ·intro i aW bE o ho a' hb aV;have k13':=aTK hb fK.out;have k14':=aTK hb eG.out;simp[Act.eval] at k13' k14'
        repeat' (rcases aW with _ | ⟨_,aW⟩)
        all_goals first
         | (exfalso;simp at bE;done)
         | (cases ho
            try simp[Act.eval,Region.binds,jB,mC] at aV
            refine eZ (by simp[Region.wanted]) ?_;simp[Oper.quietAt,Oper.quietUpon,execOp,go_sem,jB,k13',k14',f1,f2,f3,f4,f5,c0,aV])
       ·intro f listed a' hH hr hv;have av3:=hv 3;simp[Act.eval,jB,mC] at av3;simp only[wpOp];simp[Region.wanted];refine .inl ?_;simp[Oper.wp,execOp,go_sem,av3];obtain⟨wX,u6⟩:=aRX (wC.alloc (.cells #[.string ys,.int .i64 y.set.type,.int .i64 y.set.life,.slice dA2 dn dc2,.slice gA2 gn gc2] 44));rw[<-u6];have jp:Below wC.heap.size wC wX:=by rw[u6];exact aj _ _
        have zB:eB wX wC.heap.size 0 [.string ys,.int .i64 y.set.type,.int .i64 y.set.life,.slice dA2 dn dc2,.slice gA2 gn gc2]:=L2 (w:=wC) _ _ rfl u6;have Hq:=jp.size;replace f1:=aQY jp f1;replace f2:=aQY jp f2;replace f3:=aQY jp f3;replace f4:=aQY jp f4;replace f5:=aQY jp f5;replace c0:=aQY jp c0;have tF:=jq zB;have iK:=jq (fL.out.trans (jp.mono Pe));have ym:=jq (Tj.out.keep az kj bf iK.out);have yp:Hid (aB (cB wX M) wX.heap.size [.string ys,.int .i64 y.set.type,.int .i64 y.set.life,.slice dA2 dn dc2,.slice gA2 gn gc2] y):=jq (by
         have h1:=vH.out M (λk hk=>by have:=S6.out k hk;omega);have h2:=(Leaves'.of_below (M:=M) jp).slr br Ik bB h1.1;have h3:=(Leaves'.of_below (M:=M) jp).slr cK Ir da h1.2;exact⟨ys,_,_,jj.out.1,jj.out.2.1,h2,h3,rfl⟩)
        clear u6 jp zB;refine f9 5 (D:=[0,1,2,3,4]) (val:=jB T oA m oc ys y.set.type y.set.life dA dn dc gA gn gc (.agg #[.string ys,.int .i64 y.set.type,.int .i64 y.set.life,.slice dA2 dn dc2,.slice gA2 gn gc2]) (.slice (some ⟨wC.heap.size,0,none⟩) 1 1) undef) tk vh (hH.next tk vh hr) (by kernel_rfl) ?_ ?_
        ·intro i aW bE o ho a' hb aV;have k13':=aTK hb fK.out;have k14':=aTK hb eG.out;simp[Act.eval] at k13' k14'
         repeat' (rcases aW with _ | ⟨_,aW⟩)
         all_goals first
          | (exfalso;simp at bE;done)
          | (cases ho
             try simp[Act.eval,Region.binds,jB,mC] at aV
             refine eZ (by simp[Region.wanted]) ?_;simp[Oper.quietAt,Oper.quietUpon,execOp,go_sem,jB,k13',k14',f1,f2,f3,f4,f5,c0,aV])
        ·intro f listed a' hH hr hv;have av0:=hv 0;have av4:=hv 4;simp[jB,mC] at av0 av4;simp only[wpOp];simp[Region.wanted];refine .inl ?_;refine QT (R:=aB) (M:=M) wX (.tmp 89) (.tmp 93) 22 rfl (G+1) 44 is0 (.agg #[.string ⟨#[]⟩,.int .i64 0,.int .i64 0,.slice none 0 0,.slice none 0 0]) 80 underlying22 ZD ZI oJ i8 rfl (by decide) (.slice oA m oc) good av0 ym.out (some ⟨wC.heap.size,0,none⟩) 1 [y] av4 (P7 rfl yp.out tF.out) P8 (by rw[no.out];simp[maxLen];omega) (by rw[no.out];simp;omega) (by omega) az kj bf ?_;intro v8 wY mp j8 uw;obtain⟨A8,c8,rfl⟩:=mp.formN (n:=m+1) (by rw[List.length_append,no.out];rfl);have Pf:=j8.size;have OG:∀ j,(Value.slice oA m oc).ownBlock=some j->G+1<=j:=λj e=>(ym.out.lt j e).1;have GM:wY.heap[G]?=wX.heap[G]?:=j8.block _ (by omega) (λe=>by have:=OG _ e.symm;omega);replace c0:=(iQ (a:=⟨G,0,none⟩) GM).trans c0;have wW:wY.heap[T]?=wX.heap[T]?:=j8.block _ (by omega) (λe=>by have:=nk.out _ e.symm;omega);replace f1:=(iQ (a:=⟨T,1,none⟩) wW).trans f1;replace f2:=(iQ (a:=⟨T,2,none⟩) wW).trans f2;replace f3:=(iQ (a:=⟨T,3,none⟩) wW).trans f3;replace f4:=(iQ (a:=⟨T,4,none⟩) wW).trans f4;replace f5:=(iQ (a:=⟨T,5,none⟩) wW).trans f5;have Ss:=jq (GM.trans ((iK.out.block G (by omega)).trans Sr.out));have H8:=jq (And.intro mp (And.intro j8 uw));clear mp j8 uw GM OG wW;refine f9 6 (D:=[0,1,2,3,4,5]) (val:=jB T oA m oc ys y.set.type y.set.life dA dn dc gA gn gc (.agg #[.string ys,.int .i64 y.set.type,.int .i64 y.set.life,.slice dA2 dn dc2,.slice gA2 gn gc2]) (.slice (some ⟨wC.heap.size,0,none⟩) 1 1) (.slice A8 (m+1) c8)) tk vh (hH.next tk vh hr) (by kernel_rfl) ?_ ?_
         ·intro i aW bE o ho a' hb aV;have k13':=aTK hb fK.out;have k14':=aTK hb eG.out;simp[Act.eval] at k13' k14'
          repeat' (rcases aW with _ | ⟨_,aW⟩)
          all_goals first
           | (exfalso;simp at bE;done)
           | (cases ho
              try simp[Act.eval,Region.binds,jB,mC] at aV
              refine eZ (by simp[Region.wanted]) ?_;simp[Oper.quietAt,Oper.quietUpon,execOp,go_sem,jB,k13',k14',f1,f2,f3,f4,f5,c0,aV])
         ·intro f listed a' hH hr hv;have av5:=hv 5;simp[Act.eval,jB,mC] at av5;simp only[wpOp];simp[Region.wanted];refine .inl ?_;have cf:wY.frozen? ⟨G,0,none⟩=false:=by simp[World.frozen?,Ss.out]
          have k13':=(bG hH.good.base (j:=13) (by decide) (by decide)).trans fK.out;simp[Act.eval] at k13';simp[Oper.wp,execOp,go_sem,av5,c0,cf,k13'];refine rI hH hr HM.out tk (by kernel_rfl) λfC=>?_
          ·rw[fC,qr.out];simp[nb,Act.put,jB,mC];clear hv hH fC c0 cf k13';gi_wp2_with fail;have h8:=H8.out;rw[S8.out] at h8;exact JSt.push (x:=(_,.set y)) H.out (kw.out.trans (iK.out.mono YB)) h8.1 h8.2.1 h8.2.2 eH.out (by omega) (by omega) tP.out rfl
end
section
open Go.RowKit Go.Shelf
attribute [local go_sem] Oper.semAt_some
theorem Ii(s:ByteArray):(2<=s.size->((s.extract 0 2).toList == [42,46]) = [42,46].isPrefixOf s.data.toList)/\(s.size<2->[42,46].isPrefixOf s.data.toList=false):=by
 have h:=Lib.hasPrefix_raw s ⟨#[42,46]⟩;have hp:(⟨#[42,46]⟩:ByteArray).size=2:=rfl;rw[hp] at h;unfold Lib.hasPrefix at h;refine⟨λh2=>?_,λh2=>?_⟩
 ·rw[uQ h2,Bool.true_and] at h;rw[<-h,dQ (⟨#[42,46]⟩:ByteArray)]
 ·rw[aSJ,Bool.false_and] at h;exact h.symm
theorem YH(s:ByteArray)(hs:s.size<=140737488355328)(w:World) :
 Calls prog 49 #[.string s,.string ⟨#[42,46]⟩] w λe w'=>e = .returned (.bool ([42,46].isPrefixOf s.data.toList))/\w'=w:=by
 have H:=jq (Ii s);go_enter func49,ntmps49;go_wp2
 ·go_ret;exact⟨aw (H.out.1 (by omega)),rfl⟩
 ·go_ret;exact⟨aw (H.out.2 (by omega)).symm,rfl⟩
theorem WD(s:ByteArray)(hs:s.size<=140737488355328)(w:World) :
 Calls prog 182 #[.string s,.string ⟨#[42,46]⟩] w λe w'=>(∃ r:ByteArray,e = .returned (.tuple #[.string r,.bool ([42,46].isPrefixOf s.data.toList)])/\r.size<=140737488355328/\([42,46].isPrefixOf s.data.toList=true->r.data.toList=s.data.toList.drop 2))/\w'=w:=by
 obtain⟨b,hb⟩:∃ b,[42,46].isPrefixOf s.data.toList=b:=⟨_,rfl⟩;rw[hb];by_cases hz:2<=s.size
 ·have h2:=(Ii s).1 hz;rw[hb] at h2;clear hb
  cases b with
  | false=>
   go_enter func182,ntmps182;go_wp2
   ·go_ret2;exact⟨⟨s,rfl,hs,λh=>by cases h⟩,rfl⟩
   ·exfalso;omega
  | true=>
   go_enter func182,ntmps182;go_wp2
   ·go_ret2;exact⟨⟨s.extract 2 s.size,rfl,by simp;omega,λ_=>uh s 2⟩,rfl⟩
   ·exfalso;omega
 ·have h2:=(Ii s).2 (by omega);rw[hb] at h2;subst h2;clear hb;go_enter func182,ntmps182;go_wp2;go_ret2;exact⟨⟨s,rfl,hs⟩,rfl⟩
theorem aQK(s:ByteArray)(hs:s.size<=140737488355328)(w:World) :
 Calls prog 42 #[.string s] w (aUQ w.heap.size w (.bool (Np.vy s.data.toList))):=by
 obtain⟨R9,bP⟩:=aRZ (Np.vy s.data.toList);rw[bP];unfold Np.vy at bP;have bv:=jq bP;clear bP;go_enter func42,ntmps42;go_wp2_with fail;refine (jE s hs w).mono ?_;rintro e w2 ⟨rfl,ag⟩;have ax:=jq ag;clear ag;obtain⟨c1,bi⟩:=aRZ (Np.ao s.data.toList);rw[bi];have cy:=jq bi;clear bi
 cases c1 with
 | false=>
  go_wp2_with fail;go_ret;exact⟨aw (by rw[<-bv.out,cy.out];simp),ax.out⟩
 | true=>
  by_cases h4:s.data.toList = [42]
  case pos=>
   have h4':(s.toList == [42])=true:=by rw[dQ,h4];rfl
   have H4:=jq h4;clear h4;go_wp2_with fail;go_ret;exact⟨aw (by rw[<-bv.out,cy.out,H4.out];simp),ax.out⟩
  have h4':(s.toList == [42])=false:=by rw[dQ];simpa using h4
  have H4:Hid ((s.data.toList != [42])=true):=jq (by simpa using h4);clear h4;go_wp2_with (go_at_call 49;refine (YH s hs _).mono ?_;rintro e w' ⟨rfl,rfl⟩);go_ret;exact⟨aw (by rw[<-bv.out,cy.out,H4.out];simp),ax.out⟩
theorem L0(s z:ByteArray)(hs:s.size<=140737488355328)(hz:z.size<=140737488355328)(w:World) :
 Calls prog 183 #[.string s,.string z] w (aUQ w.heap.size w (.bool (Np.pD s.data.toList z.data.toList))):=by
 obtain⟨R9,bP⟩:=aRZ (Np.pD s.data.toList z.data.toList);rw[bP];unfold Np.pD at bP;have bv:=jq bP;clear bP;go_enter func183,ntmps183;by_cases h4:s.data.toList=z.data.toList
 case pos=>
  have h4':(s.toList == z.toList)=true:=by rw[dQ,dQ,h4];simp
  have H4:=jq h4;clear h4;go_wp2_with fail;go_ret;exact⟨aw (by rw[<-bv.out,H4.out];simp),vQ _ _⟩
 have h4':(s.toList == z.toList)=false:=by rw[dQ,dQ];simpa using h4
 have H4:Hid ((s.data.toList != z.data.toList)=true):=jq (by simpa using h4);clear h4;go_wp2_with fail;refine (qk s z hs hz w).mono ?_;rintro e w2 ⟨rfl,hb⟩;have HB:=jq hb;clear hb;go_wp2_with fail;go_ret;exact⟨aw (by rw[<-bv.out,H4.out];simp),HB.out⟩
theorem QQ(s z:ByteArray)(hs:s.size<=140737488355328)(hz:z.size<=140737488355328)(w:World) :
 Calls prog 112 #[.string s,.string z] w (aUQ w.heap.size w (.bool (Np.pf s.data.toList z.data.toList))):=by
 obtain⟨R9,bP⟩:=aRZ (Np.pf s.data.toList z.data.toList);rw[bP];unfold Np.pf at bP;have bv:=jq bP;clear bP;go_enter func112,ntmps112;by_cases h4:s.data.toList = [42]
 case pos=>
  have h4':(s.toList == [42])=true:=by rw[dQ,h4];rfl
  have H4:=jq h4;clear h4;go_wp2_with fail;go_ret;exact⟨aw (by rw[<-bv.out,QbQ H4.out,dQ];rfl),vQ _ _⟩
 have h4':(s.toList == [42])=false:=by rw[dQ];simpa using h4
 have H4:=jq h4;clear h4;go_wp2_with fail;refine (WD s hs w).mono ?_;rintro e w' ⟨⟨r,rfl,pZ,hr⟩,rfl⟩;have HR:=jq hr;clear hr;obtain⟨b,hb⟩:∃ b,[42,46].isPrefixOf s.data.toList=b:=⟨_,rfl⟩;rw[hb];have HB:=jq hb;clear hb
 cases b with
 | false=>
  go_wp2_with fail;go_ret;exact⟨aw (by rw[<-bv.out,Qc H4.out,HB.out];simp),vQ _ _⟩
 | true=>
  go_wp2_with fail;refine (L0 z r hz pZ _).mono ?_;rintro e w2 ⟨rfl,hb⟩;have ax:=jq hb;clear hb;go_wp2_with fail;go_ret;exact⟨aw (by rw[<-bv.out,Qc H4.out,HB.out,<-HR.out HB.out];simp),ax.out⟩
end
section
open Go.RowKit Go.Shelf Go.MapKept
attribute [local go_sem] Oper.semAt_some
def jm(rv:Value)(p:Np.DSet->Bool)(w:World):Prop:=∃ (f:FuncId) (cap:Array Value),rv = .func (.func f) #[] cap/\(∀ args w,(callFunc f args).run prog w = .ok (.enter f args) w)/\
 ∀ (W:World) (e:List Value) (x:Np.DSet),Below w.heap.size w W->bO W W.heap.size e x->Calls prog f (#[.agg e.toArray]++cap) W λe' W'=>e' = .returned (.bool (p x))/\Below W.heap.size W W'
theorem jm.keep{rv:Value}{p:Np.DSet->Bool}{w w':World}(h:jm rv p w)(hb:Below w.heap.size w w'):jm rv p w':=by
 obtain⟨f,cap,h1,h2,h3⟩:=h;exact⟨f,cap,h1,h2,λW e x hW he=>h3 W e x (hb.trans (hW.mono hb.size)) he⟩
theorem Xf:∀ args w,(callFunc 109 args).run prog w = .ok (.enter 109 args) w:=enters_of func109 (by kernel_rfl) rfl
theorem auY(Q:Nat)(qn:ByteArray)(qt:Int)(cA:qn.size<=140737488355328)(w:World)(hq:w.heap[Q]?=some (.cells [Value.string qn,.int .i64 qt].toArray 27 (0,0)))(x:Np.DSet)(e:List Value)(he:bO w w.heap.size e x) :
 Calls prog 109 #[.agg e.toArray,.pointer (some ⟨Q,0,none⟩)] w λe w'=>e = .returned (.bool (decide (x.type=8)||(decide (x.type=4)&&Np.aT qn.data.toList x.name)))/\Below w.heap.size w w':=by
 obtain⟨s,v,hs,au,hd,rfl⟩:=he;obtain⟨vA,vn,vc,rfl,_,_,_⟩:=aM hd;obtain⟨X,hX⟩:=aRZ w.heap.size;obtain⟨w1,ah⟩:=aRZ (w.alloc (.cells #[.string s,.int .i64 x.type,.int .i64 x.life,.slice vA vn vc] 25));have hb:Below w.heap.size w w1:=by rw[<-ah];exact aj _ _
 have bx:w1.heap.size=X+1:=by rw[<-ah,<-hX];simp
 have p:=bD (r:=[.string s,.int .i64 x.type,.int .i64 x.life,.slice vA vn vc]) hX ah;have k0:=p 0 _ rfl;have k1:=p 1 _ rfl;have HS:=jq hs;have aH:=jq hb;have gV:=(hb.block Q (eQ.1 hq).1).trans hq;have q0:=ae _ gV 0 _ rfl;have q1:=ae _ gV 1 _ rfl;clear hq gV;obtain⟨R9,bP⟩:=aRZ (decide (x.type=8)||(decide (x.type=4)&&Np.aT qn.data.toList x.name));rw[bP];have bv:=jq bP;clear hb hs hd p bP;go_enter func109,ntmps109;by_cases h8:x.type=8
 case pos=>
  have h8':(x.type == 8)=true:=by simpa using h8
  have H8:=jq h8;clear h8;go_wp2_with fail;clear ah;go_wp2_with fail;go_ret;exact⟨aw (by rw[<-bv.out,uQ H8.out];simp),aH.out⟩
 have h8':(x.type == 8)=false:=by simpa using h8
 have H8:=jq h8;clear h8;by_cases h4:x.type=4
 case pos=>
  have h4':(x.type == 4)=true:=by simpa using h4
  have H4:=jq h4;clear h4;go_wp2_with fail;clear ah;go_wp2_with fail;refine (qk qn s cA au w1).mono ?_;rintro e w2 ⟨rfl,ag⟩;have ax:=aRQ aH ag;clear ag;rw[HS.out];go_wp2_with fail;go_ret;exact⟨aw (by rw[<-bv.out,tQ H8.out,uQ H4.out];simp),ax.out⟩
 have h4':(x.type == 4)=false:=by simpa using h4
 have H4:=jq h4;clear h4;go_wp2_with fail;clear ah;go_wp2_with fail;go_ret;exact⟨aw (by rw[<-bv.out,tQ H8.out,tQ H4.out];simp),aH.out⟩
theorem Xg:∀ args w,(callFunc 110 args).run prog w = .ok (.enter 110 args) w:=enters_of func110 (by kernel_rfl) rfl
theorem avQ(Q:Nat)(qn:ByteArray)(qt:Int)(cA:qn.size<=140737488355328)(w:World)(hq:w.heap[Q]?=some (.cells [Value.string qn,.int .i64 qt].toArray 27 (0,0)))(x:Np.DSet)(e:List Value)(he:bO w w.heap.size e x) :
 Calls prog 110 #[.agg e.toArray,.pointer (some ⟨Q,0,none⟩)] w λe w'=>e = .returned (.bool (x.name == qn.data.toList&&decide (x.type=qt)))/\Below w.heap.size w w':=by
 obtain⟨s,v,hs,au,hd,rfl⟩:=he;obtain⟨vA,vn,vc,rfl,_,_,_⟩:=aM hd;obtain⟨X,hX⟩:=aRZ w.heap.size;obtain⟨w1,ah⟩:=aRZ (w.alloc (.cells #[.string s,.int .i64 x.type,.int .i64 x.life,.slice vA vn vc] 25));have hb:Below w.heap.size w w1:=by rw[<-ah];exact aj _ _
 have bx:w1.heap.size=X+1:=by rw[<-ah,<-hX];simp
 have p:=bD (r:=[.string s,.int .i64 x.type,.int .i64 x.life,.slice vA vn vc]) hX ah;have k0:=p 0 _ rfl;have k1:=p 1 _ rfl;have HS:=jq hs;have aH:=jq hb;have gV:=(hb.block Q (eQ.1 hq).1).trans hq;have q0:=ae _ gV 0 _ rfl;have q1:=ae _ gV 1 _ rfl;clear hq gV;obtain⟨R9,bP⟩:=aRZ (x.name == qn.data.toList&&decide (x.type=qt));rw[bP];have bv:=jq bP;clear hb hs hd p bP;go_enter func110,ntmps110;by_cases hn:x.name=qn.data.toList
 case neg=>
  have hn':(s.toList == qn.toList)=false:=by rw[dQ,dQ,HS.out];simpa using hn
  have HN:Hid ((x.name == qn.data.toList)=false):=jq (by simpa using hn);clear hn;go_wp2_with fail;clear ah;go_wp2_with fail;go_ret;exact⟨aw (by rw[<-bv.out,HN.out];simp),aH.out⟩
 have hn':(s.toList == qn.toList)=true:=by rw[dQ,dQ,HS.out,hn];simp
 have HN:Hid ((x.name == qn.data.toList)=true):=jq (by simpa using hn);clear hn;by_cases ht:x.type=qt
 case pos=>
  have ht':(x.type == qt)=true:=by simpa using ht
  have HT:=jq ht;clear ht;go_wp2_with fail;clear ah;go_wp2_with fail;go_ret;exact⟨aw (by rw[<-bv.out,HN.out,uQ HT.out];simp),aH.out⟩
 have ht':(x.type == qt)=false:=by simpa using ht
 have HT:=jq ht;clear ht;go_wp2_with fail;clear ah;go_wp2_with fail;go_ret;exact⟨aw (by rw[<-bv.out,HN.out,tQ HT.out];simp),aH.out⟩
theorem Xh:∀ args w,(callFunc 111 args).run prog w = .ok (.enter 111 args) w:=enters_of func111 (by kernel_rfl) rfl
theorem avZ(Q:Nat)(qn:ByteArray)(qt:Int)(cA:qn.size<=140737488355328)(w:World)(hq:w.heap[Q]?=some (.cells [Value.string qn,.int .i64 qt].toArray 27 (0,0)))(x:Np.DSet)(e:List Value)(he:bO w w.heap.size e x) :
 Calls prog 111 #[.agg e.toArray,.pointer (some ⟨Q,0,none⟩)] w λe w'=>e = .returned (.bool (decide (x.type=8)||(decide (x.type=qt)&&Np.pf x.name qn.data.toList)))/\Below w.heap.size w w':=by
 obtain⟨s,v,hs,au,hd,rfl⟩:=he;obtain⟨vA,vn,vc,rfl,_,_,_⟩:=aM hd;obtain⟨X,hX⟩:=aRZ w.heap.size;obtain⟨w1,ah⟩:=aRZ (w.alloc (.cells #[.string s,.int .i64 x.type,.int .i64 x.life,.slice vA vn vc] 25));have hb:Below w.heap.size w w1:=by rw[<-ah];exact aj _ _
 have bx:w1.heap.size=X+1:=by rw[<-ah,<-hX];simp
 have p:=bD (r:=[.string s,.int .i64 x.type,.int .i64 x.life,.slice vA vn vc]) hX ah;have k0:=p 0 _ rfl;have k1:=p 1 _ rfl;have HS:=jq hs;have aH:=jq hb;have gV:=(hb.block Q (eQ.1 hq).1).trans hq;have q0:=ae _ gV 0 _ rfl;have q1:=ae _ gV 1 _ rfl;clear hq gV;obtain⟨R9,bP⟩:=aRZ (decide (x.type=8)||(decide (x.type=qt)&&Np.pf x.name qn.data.toList));rw[bP];have bv:=jq bP;clear hb hs hd p bP;go_enter func111,ntmps111;by_cases h8:x.type=8
 case pos=>
  have h8':(x.type == 8)=true:=by simpa using h8
  have H8:=jq h8;clear h8;go_wp2_with fail;clear ah;go_wp2_with fail;go_ret;exact⟨aw (by rw[<-bv.out,uQ H8.out];simp),aH.out⟩
 have h8':(x.type == 8)=false:=by simpa using h8
 have H8:=jq h8;clear h8;by_cases ht:x.type=qt
 case pos=>
  have ht':(x.type == qt)=true:=by simpa using ht
  have HT:=jq ht;clear ht;go_wp2_with fail;clear ah;go_wp2_with fail;refine (QQ s qn au cA w1).mono ?_;rintro e w2 ⟨rfl,ag⟩;have ax:=aRQ aH ag;clear ag;rw[HS.out];go_wp2_with fail;go_ret;exact⟨aw (by rw[<-bv.out,tQ H8.out,uQ HT.out];simp),ax.out⟩
 have ht':(x.type == qt)=false:=by simpa using ht
 have HT:=jq ht;clear ht;go_wp2_with fail;clear ah;go_wp2_with fail;go_ret;exact⟨aw (by rw[<-bv.out,tQ H8.out,tQ HT.out];simp),aH.out⟩
theorem Xi:∀ args w,(callFunc 113 args).run prog w = .ok (.enter 113 args) w:=enters_of func113 (by kernel_rfl) rfl
theorem avJ(Q:Nat)(qn:ByteArray)(qt:Int)(cA:qn.size<=140737488355328)(w:World)(hq:w.heap[Q]?=some (.cells [Value.string qn,.int .i64 qt].toArray 27 (0,0)))(x:Np.DSet)(e:List Value)(he:bO w w.heap.size e x) :
 Calls prog 113 #[.agg e.toArray,.pointer (some ⟨Q,0,none⟩)] w λe w'=>e = .returned (.bool (decide (x.type=8)||(decide (x.type=3)&&(x.name == qn.data.toList||Np.pf x.name qn.data.toList))))/\Below w.heap.size w w':=by
 obtain⟨s,v,hs,au,hd,rfl⟩:=he;obtain⟨vA,vn,vc,rfl,_,_,_⟩:=aM hd;obtain⟨X,hX⟩:=aRZ w.heap.size;obtain⟨w1,ah⟩:=aRZ (w.alloc (.cells #[.string s,.int .i64 x.type,.int .i64 x.life,.slice vA vn vc] 25));have hb:Below w.heap.size w w1:=by rw[<-ah];exact aj _ _
 have bx:w1.heap.size=X+1:=by rw[<-ah,<-hX];simp
 have p:=bD (r:=[.string s,.int .i64 x.type,.int .i64 x.life,.slice vA vn vc]) hX ah;have k0:=p 0 _ rfl;have k1:=p 1 _ rfl;have HS:=jq hs;have aH:=jq hb;have gV:=(hb.block Q (eQ.1 hq).1).trans hq;have q0:=ae _ gV 0 _ rfl;have q1:=ae _ gV 1 _ rfl;clear hq gV;obtain⟨R9,bP⟩:=aRZ (decide (x.type=8)||(decide (x.type=3)&&(x.name == qn.data.toList||Np.pf x.name qn.data.toList)));rw[bP];have bv:=jq bP;clear hb hs hd p bP;go_enter func113,ntmps113;by_cases hn:x.name=qn.data.toList
 case neg=>
  have hn':(s.toList == qn.toList)=false:=by rw[dQ,dQ,HS.out];simpa using hn
  have HN:Hid ((x.name == qn.data.toList)=false):=jq (by simpa using hn);clear hn;go_wp2_with fail;clear ah;go_wp2_with fail;refine (QQ s qn au cA w1).mono ?_;rintro e w2 ⟨rfl,ag⟩;have ax:=aRQ aH ag;have k1:=aQY ag k1;clear ag;rw[HS.out];by_cases h8:x.type=8
  case pos=>
   have h8':(x.type == 8)=true:=by simpa using h8
   have H8:=jq h8;clear h8;go_wp2_with fail;go_ret;exact⟨aw (by rw[<-bv.out,uQ H8.out];simp),ax.out⟩
  have h8':(x.type == 8)=false:=by simpa using h8
  have H8:=jq h8;clear h8;by_cases h3:x.type=3
  case pos=>
   have h3':(x.type == 3)=true:=by simpa using h3
   have H3:=jq h3;clear h3;go_wp2_with fail;go_ret;exact⟨aw (by rw[<-bv.out,tQ H8.out,uQ H3.out,HN.out];simp),ax.out⟩
  have h3':(x.type == 3)=false:=by simpa using h3
  have H3:=jq h3;clear h3;go_wp2_with fail;go_ret;exact⟨aw (by rw[<-bv.out,tQ H8.out,tQ H3.out];simp),ax.out⟩
 have hn':(s.toList == qn.toList)=true:=by rw[dQ,dQ,HS.out,hn];simp
 have HN:Hid ((x.name == qn.data.toList)=true):=jq (by simpa using hn);clear hn;by_cases h8:x.type=8
 case pos=>
  have h8':(x.type == 8)=true:=by simpa using h8
  have H8:=jq h8;clear h8;go_wp2_with fail;clear ah;go_wp2_with fail;go_ret;exact⟨aw (by rw[<-bv.out,uQ H8.out];simp),aH.out⟩
 have h8':(x.type == 8)=false:=by simpa using h8
 have H8:=jq h8;clear h8;by_cases h3:x.type=3
 case pos=>
  have h3':(x.type == 3)=true:=by simpa using h3
  have H3:=jq h3;clear h3;go_wp2_with fail;clear ah;go_wp2_with fail;go_ret;exact⟨aw (by rw[<-bv.out,tQ H8.out,uQ H3.out,HN.out];simp),aH.out⟩
 have h3':(x.type == 3)=false:=by simpa using h3
 have H3:=jq h3;clear h3;go_wp2_with fail;clear ah;go_wp2_with fail;go_ret;exact⟨aw (by rw[<-bv.out,tQ H8.out,tQ H3.out];simp),aH.out⟩
theorem Xj:∀ args w,(callFunc 115 args).run prog w = .ok (.enter 115 args) w:=enters_of func115 (by kernel_rfl) rfl
theorem avK(w:World)(x:Np.DSet)(e:List Value)(he:bO w w.heap.size e x) :
 Calls prog 115 #[.agg e.toArray] w λe w'=>e = .returned (.bool (false))/\Below w.heap.size w w':=by
 obtain⟨s,v,hs,au,hd,rfl⟩:=he;obtain⟨vA,vn,vc,rfl,_,_,_⟩:=aM hd;obtain⟨X,hX⟩:=aRZ w.heap.size;obtain⟨w1,ah⟩:=aRZ (w.alloc (.cells #[.string s,.int .i64 x.type,.int .i64 x.life,.slice vA vn vc] 25));have hb:Below w.heap.size w w1:=by rw[<-ah];exact aj _ _
 have bx:w1.heap.size=X+1:=by rw[<-ah,<-hX];simp
 have p:=bD (r:=[.string s,.int .i64 x.type,.int .i64 x.life,.slice vA vn vc]) hX ah;have k0:=p 0 _ rfl;have k1:=p 1 _ rfl;have HS:=jq hs;have aH:=jq hb;obtain⟨R9,bP⟩:=aRZ (false);rw[bP];have bv:=jq bP;clear hb hs hd p bP;go_enter func115,ntmps115;go_wp2_with fail;clear ah;go_wp2_with fail;go_ret;exact⟨aw (by rw[<-bv.out]),aH.out⟩
theorem Xk:∀ args w,(callFunc 184 args).run prog w = .ok (.enter 184 args) w:=enters_of func184 (by kernel_rfl) rfl
theorem avX(w:World)(x:Np.DSet)(e:List Value)(he:bO w w.heap.size e x) :
 Calls prog 184 #[.agg e.toArray] w λe w'=>e = .returned (.bool (false))/\Below w.heap.size w w':=by
 obtain⟨s,v,hs,au,hd,rfl⟩:=he;obtain⟨vA,vn,vc,rfl,_,_,_⟩:=aM hd;obtain⟨X,hX⟩:=aRZ w.heap.size;obtain⟨w1,ah⟩:=aRZ (w.alloc (.cells #[.string s,.int .i64 x.type,.int .i64 x.life,.slice vA vn vc] 25));have hb:Below w.heap.size w w1:=by rw[<-ah];exact aj _ _
 have bx:w1.heap.size=X+1:=by rw[<-ah,<-hX];simp
 have p:=bD (r:=[.string s,.int .i64 x.type,.int .i64 x.life,.slice vA vn vc]) hX ah;have k0:=p 0 _ rfl;have k1:=p 1 _ rfl;have HS:=jq hs;have aH:=jq hb;obtain⟨R9,bP⟩:=aRZ (false);rw[bP];have bv:=jq bP;clear hb hs hd p bP;go_enter func184,ntmps184;go_wp2_with fail;clear ah;go_wp2_with fail;go_ret;exact⟨aw (by rw[<-bv.out]),aH.out⟩
end
section
open Go.RowKit Go.Shelf Go.MapKept
attribute [local go_sem] Oper.semAt_some
theorem Xl:∀ args w,(callFunc 185 args).run prog w = .ok (.enter 185 args) w:=enters_of func185 (by kernel_rfl) rfl
theorem avY(D H r:Nat)(ak:Int)(sA:Option Addr)(sn sc:Nat)(cut:ByteArray)(hcs:cut.size<=140737488355328)(ks:List (List UInt8))(w:World)(hD:w.heap[D]?=some (.cells [Value.int .i64 ak,.slice sA sn sc,.string cut].toArray 29 (0,0)))(hH:w.heap[H]?=some (.cells [Value.map (some r)].toArray 212 (0,0)))(hm:jP r ks w)(x:Np.DSet)(e:List Value)(he:bO w w.heap.size e x) :
 Calls prog 185 #[.agg e.toArray,.pointer (some ⟨D,0,none⟩),.pointer (some ⟨H,0,none⟩)] w λe w'=>e = .returned (.bool (if x.type=2\/x.type=6\/x.type=8 then x.name == cut.data.toList else decide (x.type=1)&&(Np.aT x.name cut.data.toList&&ks.any λy=>y == x.name)))/\Below w.heap.size w w':=by
 obtain⟨s,v,hs,au,hd,rfl⟩:=he;obtain⟨vA,vn,vc,rfl,_,_,_⟩:=aM hd;obtain⟨X,hX⟩:=aRZ w.heap.size;obtain⟨w1,ah⟩:=aRZ (w.alloc (.cells #[.string s,.int .i64 x.type,.int .i64 x.life,.slice vA vn vc] 25));have hb:Below w.heap.size w w1:=by rw[<-ah];exact aj _ _
 have bx:w1.heap.size=X+1:=by rw[<-ah,<-hX];simp
 have p:=bD (r:=[.string s,.int .i64 x.type,.int .i64 x.life,.slice vA vn vc]) hX ah;have k0:=p 0 _ rfl;have k1:=p 1 _ rfl;have Ov:=(eQ.1 hD).1;have Ow:=(eQ.1 hH).1;have HP:=jq p;have HS:=jq hs;have aH:=jq hb;have SX:=jq (hm.keep hb hm.lt);have Db:r<X:=by rw[<-hX];exact hm.lt
 have St:=jq ((hb.block H Ow).trans hH);have jW:=(hb.block D Ov).trans hD;have d2:=ae _ jW 2 _ rfl;obtain⟨R9,bP⟩:=aRZ (if x.type=2\/x.type=6\/x.type=8 then x.name == cut.data.toList else decide (x.type=1)&&(Np.aT x.name cut.data.toList&&ks.any λy=>y == x.name));rw[bP];have bv:=jq bP;rw[hX] at Ov Ow;clear hb hs hd p bP hD hH hm jW;go_enter func185,ntmps185;by_cases h2:x.type=2
 case pos=>
  have h2':(x.type == 2)=true:=by simpa using h2
  have HC:Hid (x.type=2\/x.type=6\/x.type=8):=jq (by omega);clear h2;by_cases hn:s.data.toList=cut.data.toList
  ·have hn':(s.toList == cut.toList)=true:=by rw[dQ,dQ,hn];simp
   have HN:Hid ((x.name == cut.data.toList)=true):=jq (by rw[<-HS.out];simpa using hn);clear hn;go_wp2_with fail;clear ah;go_wp2_with fail;go_ret;exact⟨aw (by rw[<-bv.out,QbQ HC.out,HN.out]),aH.out⟩
  ·have hn':(s.toList == cut.toList)=false:=by rw[dQ,dQ];simpa using hn
   have HN:Hid ((x.name == cut.data.toList)=false):=jq (by rw[<-HS.out];simpa using hn);clear hn;go_wp2_with fail;clear ah;go_wp2_with fail;go_ret;exact⟨aw (by rw[<-bv.out,QbQ HC.out,HN.out]),aH.out⟩
 have h2':(x.type == 2)=false:=by simpa using h2
 by_cases h6:x.type=6
 case pos=>
  have h6':(x.type == 6)=true:=by simpa using h6
  have HC:Hid (x.type=2\/x.type=6\/x.type=8):=jq (by omega);clear h6;by_cases hn:s.data.toList=cut.data.toList
  ·have hn':(s.toList == cut.toList)=true:=by rw[dQ,dQ,hn];simp
   have HN:Hid ((x.name == cut.data.toList)=true):=jq (by rw[<-HS.out];simpa using hn);clear hn;go_wp2_with fail;clear ah;go_wp2_with fail;go_ret;exact⟨aw (by rw[<-bv.out,QbQ HC.out,HN.out]),aH.out⟩
  ·have hn':(s.toList == cut.toList)=false:=by rw[dQ,dQ];simpa using hn
   have HN:Hid ((x.name == cut.data.toList)=false):=jq (by rw[<-HS.out];simpa using hn);clear hn;go_wp2_with fail;clear ah;go_wp2_with fail;go_ret;exact⟨aw (by rw[<-bv.out,QbQ HC.out,HN.out]),aH.out⟩
 have h6':(x.type == 6)=false:=by simpa using h6
 by_cases h8:x.type=8
 case pos=>
  have h8':(x.type == 8)=true:=by simpa using h8
  have HC:Hid (x.type=2\/x.type=6\/x.type=8):=jq (by omega);clear h8;by_cases hn:s.data.toList=cut.data.toList
  ·have hn':(s.toList == cut.toList)=true:=by rw[dQ,dQ,hn];simp
   have HN:Hid ((x.name == cut.data.toList)=true):=jq (by rw[<-HS.out];simpa using hn);clear hn;go_wp2_with fail;clear ah;go_wp2_with fail;go_ret;exact⟨aw (by rw[<-bv.out,QbQ HC.out,HN.out]),aH.out⟩
  ·have hn':(s.toList == cut.toList)=false:=by rw[dQ,dQ];simpa using hn
   have HN:Hid ((x.name == cut.data.toList)=false):=jq (by rw[<-HS.out];simpa using hn);clear hn;go_wp2_with fail;clear ah;go_wp2_with fail;go_ret;exact⟨aw (by rw[<-bv.out,QbQ HC.out,HN.out]),aH.out⟩
 have h8':(x.type == 8)=false:=by simpa using h8
 have HC:Hid (¬ (x.type=2\/x.type=6\/x.type=8)):=jq (by omega);clear h2 h6 h8;by_cases h1:x.type=1
 case neg=>
  have h1':(x.type == 1)=false:=by simpa using h1
  have H1:=jq h1;clear h1;go_wp2_with fail;clear ah;go_wp2_with fail;go_ret;exact⟨aw (by rw[<-bv.out,Qc HC.out,tQ H1.out];simp),aH.out⟩
 have h1':(x.type == 1)=true:=by simpa using h1
 have H1:=jq h1;clear h1;go_wp2_with fail;clear ah;go_wp2_with fail;refine (qk s cut au hcs w1).mono ?_;rintro e w2 ⟨rfl,ag⟩;have ax:=aRQ aH ag;have zT:=SX.out.keep ag (by omega);have Nc:=(ag.block H (by omega)).trans St.out;have c0:=ae _ Nc 0 _ rfl;have k0':=aQY ag (HP.out 0 _ rfl);have fi:=axJ w2 212 _ _ underlying212 underlying9 r ks zT s.data.toList (zeroValue4 w2);rw[IH,HS.out] at fi;obtain⟨c1,bi⟩:=aRZ (Np.aT s.data.toList cut.data.toList);rw[bi];rw[HS.out] at bi;have cy:=jq bi;clear bi ag zT Nc
 cases c1 with
 | false=>
  go_wp2_with fail;go_ret;exact⟨aw (by rw[<-bv.out,Qc HC.out,uQ H1.out,cy.out];simp),ax.out⟩
 | true=>
  go_wp2_with fail;go_ret;exact⟨aw (by rw[<-bv.out,Qc HC.out,uQ H1.out,cy.out];simp),ax.out⟩
theorem lZ.form{W:World}{B:Nat}{e:List Value}{a:Np.Ans}(h:lZ W B e a):∃ (A:Option Addr) (N C:Nat) (c:ByteArray),e = [.int .i64 a.kind,.slice A N C,.string c]/\a.sets.length=N/\N<=C/\N<=140737488355328/\SlR aB 5 W B (.slice A N C) a.sets/\c.data.toList=a.cut/\c.size<=140737488355328:=by
 obtain⟨v,c,hv,hc,hcs,rfl⟩:=h;obtain⟨A,N,C,rfl,hN,Yj,zk⟩:=aM hv;exact⟨A,N,C,c,rfl,hN,Yj,zk,hv,hc,hcs⟩
theorem Np.Zt{a:Np.Ans}{k:Nat}{y:Np.Signed}(hy:a.sets[k]?=some y)(bX:∀ s∈a.sets.take k,(s.set.name == a.cut&&decide (s.set.type=2))=false)(h:(y.set.name == a.cut&&decide (y.set.type=2))=true):Np.pU a=y.set.data.map (·.text):=by
 obtain⟨hl,he⟩:=cQ.1 hy;unfold Np.pU;rw[yW (λs:Np.Signed=>s.set.name == a.cut&&decide (s.set.type=2)) a.sets k hl bX (by rw[he];exact h),he]
theorem Np.Zu{a:Np.Ans}(bX:∀ s∈a.sets,(s.set.name == a.cut&&decide (s.set.type=2))=false):Np.pU a = []:=by
 unfold Np.pU;rw[List.find?_eq_none.2 (λs hs=>by rw[bX s hs];simp)]
theorem Qe(p:Np.DSet->Bool)(hp:∀ x,p x=false)(w:World):jm (.func (.func 184) #[] #[]) p w:=
 ⟨_,#[],rfl,Xk,λW e x _ he=>(avX W x e he).mono λe' W' h=>⟨by rw[h.1,hp],h.2⟩⟩
theorem Qf(zn qn:List UInt8)(a:Np.Ans)(D H r:Nat)(ak:Int)(sA:Option Addr)(sn sc:Nat)(cut:ByteArray)(hc:cut.data.toList=a.cut)(hcs:cut.size<=140737488355328)(ks:List (List UInt8))(q8:Np.pU a=ks)(w:World)(hD:w.heap[D]?=some (.cells [Value.int .i64 ak,.slice sA sn sc,.string cut].toArray 29 (0,0)))(hH:w.heap[H]?=some (.cells [Value.map (some r)].toArray 212 (0,0)))(hm:jP r ks w)
 (hb:Np.pD a.cut zn=true) (hu:Np.aT qn a.cut=true):jm (.func (.func 185) #[] #[.pointer (some ⟨D,0,none⟩),.pointer (some ⟨H,0,none⟩)]) (Np.tn zn qn a) w:=by
 refine⟨_,_,rfl,Xl,λW e x hW he=>(avY D H r ak sA sn sc cut hcs ks W ((hW.block D (eQ.1 hD).1).trans hD) ((hW.block H (eQ.1 hH).1).trans hH) (hm.keep hW hm.lt) x e he).mono λe' W' h=>⟨?_,h.2⟩⟩;rw[h.1];unfold Np.tn;rw[hb,hu,q8,hc];rfl
theorem atZ(z qn:ByteArray)(hz:z.size<=140737488355328)(cA:qn.size<=140737488355328)(qt:Int)(a:Np.Ans)(e:List Value)(w:World)(he:lZ w w.heap.size e a)(mu:∀ y∈a.sets,y.set.data.length<=100000) :
 Calls prog 114 #[.string z,.agg #[.string qn,.int .i64 qt],.agg e.toArray] w λe w'=>(∃ rv,e = .returned rv/\jm rv (Np.tn z.data.toList qn.data.toList a) w')/\Below w.heap.size w w':=by
 obtain⟨A,N,C,cut,rfl,hN,_,zk,hv,hc,hcs⟩:=he.form;obtain⟨X,hX⟩:=aRZ w.heap.size;obtain⟨ak,kP⟩:=aRZ a.kind;rw[kP];obtain⟨w1,ah⟩:=aRZ (w.alloc (.cells #[.string qn,.int .i64 qt] 27));obtain⟨w2,aX⟩:=aRZ (w1.alloc (.cells #[.int .i64 ak,.slice A N C,.string cut] 29));have z1:w1.heap.size=X+1:=by rw[<-ah,<-hX];simp
 have z2:w2.heap.size=X+1+1:=by rw[<-aX];simp[z1]
 have ay:Below X w w1:=by rw[<-ah,<-hX];exact aj _ _
 have ag:Below w1.heap.size w1 w2:=by rw[<-aX];exact aj _ _
 have ax:=jq (ay.trans (ag.aSZ));have jg:Hid (w2.heap[X]?=some (.cells [Value.string qn,.int .i64 qt].toArray 27 (0,0))):=jq ((ag.block X (by omega)).trans (by rw[<-ah,<-hX];exact heap_alloc_new _ _));have gK:Hid (w2.heap[X+1]?=some (.cells [Value.int .i64 ak,.slice A N C,.string cut].toArray 29 (0,0))):=jq (by rw[<-aX,<-z1];exact heap_alloc_new _ _);rw[hX] at hv;have HV:=jq hv;have HN:=jq hN;have HC:=jq hc;have HX:=jq hX;have pz:=jq mu;have q0:=ae _ jg.out 0 _ rfl;have d2:=ae _ gK.out 2 _ rfl;have cr:X+1+1<=w2.heap.size:=by omega
 clear ay ag hv hN hc mu he;go_enter func114,ntmps114;go_wp2_with fail;clear ah aX;go_wp2_with fail;refine (L0 cut z hcs hz w2).mono ?_;rintro e w3 ⟨rfl,ai⟩;have am:=aRQ ax ai;have iM:=jq ((ai.block X (by omega)).trans jg.out);have qy:=jq ((ai.block (X+1) (by omega)).trans gK.out);have nJ:X+1+1<=w3.heap.size:=by have:=ai.size;omega
 clear ai z1 z2 q0 d2;obtain⟨c1,bi⟩:=aRZ (Np.pD cut.data.toList z.data.toList);rw[bi];rw[HC.out] at bi;have cy:=jq bi;clear bi
 cases c1 with
 | false=>
  go_wp2_with fail;go_ret;exact⟨⟨_,rfl,Qe _ (λx=>by unfold Np.tn;rw[cy.out];rfl) _⟩,by rw[HX.out];exact am.out⟩
 | true=>
  have q0:=ae _ iM.out 0 _ rfl;have d2:=ae _ qy.out 2 _ rfl;go_wp2_with fail;refine (qk qn cut cA hcs w3).mono ?_;rintro e w4 ⟨rfl,av⟩;have aF:=aRQ am av;have rO:=jq ((av.block (X+1) (by omega)).trans qy.out);have ve:X+1+1<=w4.heap.size:=by have:=av.size;omega
  clear av q0 d2;obtain⟨c2,dR⟩:=aRZ (Np.aT qn.data.toList cut.data.toList);rw[dR];rw[HC.out] at dR;have gd:=jq dR;clear dR
  cases c2 with
  | false=>
   go_wp2_with fail;go_ret;exact⟨⟨_,rfl,Qe _ (λx=>by unfold Np.tn;rw[gd.out,cy.out];rfl) _⟩,by rw[HX.out];exact aF.out⟩
  | true=>
   have q9:∀ (w:World),(Instr.makeMap 212 none).run prog w = .ok (.map (some w.heap.size)) (w.alloc (.map #[] 0)):=λw=>by
    simp[Instr.makeMap,Result.andThen]
   obtain⟨r,hr⟩:=aRZ w4.heap.size;obtain⟨w5,bc⟩:=aRZ (w4.alloc (.map #[] 0));obtain⟨w6,cS⟩:=aRZ (w5.alloc (.cells #[.map (some r)] 212));have z5:w5.heap.size=r+1:=by rw[<-bc,<-hr];simp
   have z6:w6.heap.size=r+1+1:=by rw[<-cS];simp[z5]
   have aI:Below r w4 w5:=by rw[<-bc,<-hr];exact aj _ _
   have bh:Below w5.heap.size w5 w6:=by rw[<-cS];exact aj _ _
   have yh:Hid (jP r [] w6):=jq ((show jP r [] w5 by rw[<-bc,<-hr];exact jP.made w4).keep bh (by omega));have Su:Hid (w6.heap[r+1]?=some (.cells [Value.map (some r)].toArray 212 (0,0))):=jq (by rw[<-cS,<-z5];exact heap_alloc_new _ _);have lH:=jq (aI.trans (bh.aSZ));have aU:=aRQ aF lH.out;have qz:=jq ((lH.out.block (X+1) (by omega)).trans rO.out);have hXr:X+1+1<=r:=by omega
   have Vw:Hid (w6.heap.size=r+1+1):=jq z6;have d1:=ae _ qz.out 1 _ rfl;clear aI bh z6;go_wp2_with fail;clear bc q9;go_wp2_with fail;clear cS z5;go_wp2_with fail;clear d1;go_loopw [29] (λi wr=>∃ k:Nat,k<=N/\i = .int .i64 k/\Hid (Below w6.heap.size w6 wr)/\Hid (∀ s∈a.sets.take k,(s.set.name == a.cut&&decide (s.set.type=2))=false)) (λi _=>N - (intOf i).toNat)
   case atStart=>exact⟨0,jQ _,rfl,jq (vQ _ _),jq (by simp)⟩
   case round=>
    obtain⟨k,hk,rfl,HB,dG⟩:=hrel;obtain⟨ws,rfl⟩:=aRX wr;have rm:=Vw.out;have dV:r+1+1<=ws.heap.size:=by have:=HB.out.size;omega
    have bU:=aRQ aU HB.out;have JO:=jq ((HB.out.block (X+1) (by omega)).trans qz.out);have JV:=jq ((HB.out.block (r+1) (by omega)).trans Su.out);have J3:=jq (yh.out.keep HB.out (by omega));clear rm;by_cases af:k<N
    ·obtain⟨y,gI⟩:∃ y,a.sets[k]?=some y:=⟨_,aQ (by rw[HN.out];exact af)⟩;obtain⟨b,o,c2,s,dv,sv,hA,dB,_,dq,eX,bZ,cx,e0,e1,e2,e3,e4⟩:=mE (HV.out.keep az bU.out) gI;simp only[Value.slice.injEq] at hA;obtain⟨rfl,-,rfl⟩:=hA;obtain⟨dA,dn,dc,rfl,ju,_,wM⟩:=aM bZ;obtain⟨gA,gn,gc,rfl,_,_,_⟩:=aM cx;have iP:=jq gI;have gh:=jq (AL bZ bU.out (λ_ _ h=>h));have xZ:=jq ju;have LJ:=jq dq;have fe:Hid (a.sets.take (k+1)=a.sets.take k ++ [y]):=jq (by
      obtain⟨hl,he⟩:=cQ.1 gI;rw[fQ hl,he])
     have dS:=kNN k;have dp:(k:Int)<(N:Int):=by omega
     obtain⟨w7,eF⟩:=aRZ (ws.alloc (.cells #[.string s,.int .i64 y.set.type,.int .i64 y.set.life,.slice dA dn dc,.slice gA gn gc] 44));have bm:Below ws.heap.size ws w7:=by rw[<-eF];exact aj _ _
     have l7:ws.heap.size<w7.heap.size:=by rw[<-eF];simp
     have p7:=bD (r:=[.string s,.int .i64 y.set.type,.int .i64 y.set.life,.slice dA dn dc,.slice gA gn gc]) rfl eF;have v0:=p7 0 _ rfl;have v1:=p7 1 _ rfl;have v3:=p7 3 _ rfl;have cL:=jq bm;have Bo:=jq ((bm.block (X+1) (by omega)).trans JO.out);have d2:=ae _ Bo.out 2 _ rfl;clear gI dq bZ cx ju bm p7;have pr:Hid ((y.set.name == a.cut&&decide (y.set.type=2))=false)->Hid (∀ s∈a.sets.take (k+1),(s.set.name == a.cut&&decide (s.set.type=2))=false):=λh=>jq (λs hs=>by
      rw[fe.out] at hs;rcases List.mem_append.1 hs with hs | hs
      ·exact dG.out s hs
      ·rw[List.mem_singleton.1 hs];exact h.out)
     by_cases hn:s.data.toList=cut.data.toList
     case neg=>
      have hn':(s.toList == cut.toList)=false:=by rw[dQ,dQ];simpa using hn
      have HM:Hid ((y.set.name == a.cut&&decide (y.set.type=2))=false):=jq (by rw[<-LJ.out,<-HC.out,beq_eq_false_iff_ne.2 hn];rfl);have EM:=pr HM;clear hn pr;go_wp2_with fail;clear eF e0 e1 e2 e3 e4;go_wp2_with fail;go_roundw
      case rel=>exact⟨k+1,by omega,by go_num,jq (HB.out.trans (cL.out.mono HB.out.size)),EM⟩
      ·simp[intOf]<;>omega
     have hn':(s.toList == cut.toList)=true:=by rw[dQ,dQ,hn];simp
     have tH:Hid (y.set.name=a.cut):=jq (by rw[<-LJ.out,<-HC.out];exact hn);clear hn;by_cases h2:y.set.type=2
     case neg=>
      have h2':(y.set.type == 2)=false:=by simpa using h2
      have HM:Hid ((y.set.name == a.cut&&decide (y.set.type=2))=false):=jq (by simp[h2]);have EM:=pr HM;clear h2 pr;go_wp2_with fail;clear eF e0 e1 e2 e3 e4;go_wp2_with fail;go_roundw
      case rel=>exact⟨k+1,by omega,by go_num,jq (HB.out.trans (cL.out.mono HB.out.size)),EM⟩
      ·simp[intOf]<;>omega
     have h2':(y.set.type == 2)=true:=by simpa using h2
     have Sv:Hid (Np.pU a=y.set.data.map (·.text)):=jq (Np.Zt iP.out dG.out (by rw[tH.out,h2];simp));have TZ:=jq (pz.out y (gQ iP.out));have hdm:dn<=100000:=by rw[<-xZ.out];exact TZ.out
     clear h2 pr;go_wp2_with fail;clear eF e0 e1 e2 e3 e4;go_wp2_with fail;clear v0 v1 v3 d2;go_loopw [49] (λj wr=>∃ q:Nat,q<=dn/\j = .int .i64 q/\r+1+1<=wr.heap.size/\Hid (Below X w wr)/\Hid (wr.heap[X+1]?=some (.cells [Value.int .i64 ak,.slice (some ⟨b,o,none⟩) N C,.string cut].toArray 29 (0,0)))/\Hid (wr.heap[r+1]?=some (.cells [Value.map (some r)].toArray 212 (0,0)))/\Hid (jP r ((y.set.data.take q).map (·.text)) wr)) (λj _=>dn - (intOf j).toNat)
     case atStart=>exact⟨0,jQ _,rfl,by omega,aRQ bU cL.out,Bo,jq ((cL.out.block (r+1) (by omega)).trans JV.out),jq (J3.out.keep cL.out (by omega))⟩
     case round=>
      obtain⟨q,hq,rfl,Dy,iK,JP,JW,EK⟩:=hrel;obtain⟨wt,rfl⟩:=aRX wr;by_cases Ac:q<dn
      ·obtain⟨d,Gy⟩:∃ d,y.set.data[q]?=some d:=⟨_,aQ (by rw[xZ.out];exact Ac)⟩;obtain⟨b',o',c',xt,hA',CK,_,xu,mz,g0,g1,g2⟩:=ug (gh.out.keep br iK.out) Gy;simp only[Value.slice.injEq] at hA';obtain⟨rfl,-,rfl⟩:=hA';have BU:=jq xu;have E3:Hid ((y.set.data.take (q+1)).map (·.text)=(y.set.data.take q).map (·.text) ++ [d.text]):=jq (by
        obtain⟨hl,he⟩:=cQ.1 Gy;rw[fQ hl,he,List.map_append];rfl)
       have uO:=kNN q;have gV:(q:Int)<(dn:Int):=by omega
       obtain⟨w8,dU⟩:=aRZ (wt.alloc (.cells #[.string xt,.int .i64 d.n,.int .i64 d.m] 75));have cu:Below wt.heap.size wt w8:=by rw[<-dU];exact aj _ _
       have l8:wt.heap.size<w8.heap.size:=by rw[<-dU];simp
       have t0:=bD (r:=[.string xt,.int .i64 d.n,.int .i64 d.m]) rfl dU 0 _ rfl;have cT:=jq cu;have JU:=jq ((cu.block (r+1) (by omega)).trans JW.out);have BB:=jq (EK.out.keep cu (by omega));have c0:=ae _ JU.out 0 _ rfl;clear Gy xu cu;go_wp2_with (at_mapUpdate;refine aPX w8 rfl _ _ _ 212 rfl 9 4 underlying212 underlying9 r _ rfl BB.out d.text (by rw[<-BU.out,IH];rfl) rfl ?_;intro w9 zU Am;have EH:=jq zU;have vU:=jq Am;clear zU Am);go_roundw
       case rel=>exact⟨q+1,by omega,by go_num,by rw[vU.out.size];omega,jq ((iK.out.trans (cT.out.aSZ)).trans (vU.out.below (by omega))),jq ((vU.out.block (X+1) (by omega)).trans ((cT.out.block (X+1) (by omega)).trans JP.out)),jq ((vU.out.block (r+1) (by omega)).trans JU.out),jq (by rw[E3.out];exact EH.out)⟩
       ·simp[intOf]<;>omega
      ·obtain rfl:q=dn:=by omega
       have yw:Hid ((y.set.data.take q).map (·.text)=y.set.data.map (·.text)):=jq (by rw[kQ (by rw[xZ.out];omega)]);rw[yw.out] at EK;clear Ac;go_wp2_with fail;go_ret;exact⟨⟨_,rfl,Qf z.data.toList qn.data.toList a (X+1) (r+1) r ak (some ⟨b,o,none⟩) N C cut HC.out hcs _ Sv.out wt JP.out JW.out EK.out cy.out gd.out⟩,by first | exact iK.out | (rw[HX.out];exact iK.out)⟩
    ·obtain rfl:k=N:=by omega
     have S9:Hid (∀ s∈a.sets,(s.set.name == a.cut&&decide (s.set.type=2))=false):=jq (by have:=dG.out;rwa [kQ (by rw[HN.out];omega)] at this);go_wp2_with fail;go_ret;exact⟨⟨_,rfl,Qf z.data.toList qn.data.toList a (X+1) (r+1) r ak A k C cut HC.out hcs [] (Np.Zu S9.out) ws JO.out JV.out J3.out cy.out gd.out⟩,by rw[HX.out];exact bU.out⟩
end
end Go.Proofs.YtadhigmjilijcaaGreatDoor
