/- No condition. -/
import Derived.Test.YtadhigmjilijcaaGreatDoorA26
import Derived.Test.YtadhigmjilijcaaGreatDoorA27
set_option linter.all false
set_option maxRecDepth 100000
set_option maxHeartbeats 8000000
namespace Go.Proofs.YtadhigmjilijcaaGreatDoor
open Go.Proofs.Tryz
section
open Go.RowKit Go.Shelf
attribute [local go_sem] Oper.semAt_some
theorem apZ(a:Np.Ans)(A:Option Addr)(N C:Nat)(cut:ByteArray)(ak:Int)(kP:a.kind=ak)(w:World)(hR:bL w w.heap.size)(he:lZ w w.heap.size [.int .i64 ak,.slice A N C,.string cut] a) :
 Calls prog 108 #[.agg #[.int .i64 2,.int .i64 0,.int .i64 1,.int .i64 1,.string ⟨#[46]⟩,.int .i64 4,.int .i64 ak,.slice A N C,.string cut]] w λe w'=>e = .returned (.bool (Np.mL a))/\Below w.heap.size w w':=by
 obtain⟨X,hX⟩:=aRZ w.heap.size;obtain⟨w1,ah⟩:=aRZ (w.alloc (.cells #[.int .i64 2,.int .i64 0,.int .i64 1,.int .i64 1,.string ⟨#[46]⟩,.int .i64 4,.int .i64 ak,.slice A N C,.string cut] 152));have hb:Below w.heap.size w w1:=by rw[<-ah];exact aj _ _
 have bx:w1.heap.size=X+1:=by rw[<-ah,<-hX];simp
 have p:=bD (r:=[.int .i64 2,.int .i64 0,.int .i64 1,.int .i64 1,.string ⟨#[46]⟩,.int .i64 4,.int .i64 ak,.slice A N C,.string cut]) hX ah;have k0:=p 0 _ rfl;have k1:=p 1 _ rfl;have k2:=p 2 _ rfl;have k3:=p 3 _ rfl;have k4:=p 4 _ rfl;have k5:=p 5 _ rfl;have k6:=p 6 _ rfl;have k7:=p 7 _ rfl;have k8:=p 8 _ rfl;have aH:=jq hb;have HR:=jq ((hR.keep hb).more hb.size);have HE:=jq (vo _ _ _ _ _ (vm _ _ _ _ _ he hb) hb.size);have HP:=jq p;have Zl:(⟨#[46]⟩:ByteArray).size<=140737488355328:=by decide
 clear hb hR he p;go_enter func108,ntmps108;go_wp2_with fail;clear ah;go_wp2_with fail;refine (uc 0 0 65535 w1).mono ?_;rintro e w2 ⟨rfl,aX⟩;subst w2;rw[show (decide ((0:Int)<=0)&&decide ((0:Int)<=65535))=true by decide];go_wp2_with fail;refine (uc 1 1 1000000 w1).mono ?_;rintro e w2 ⟨rfl,aX⟩;subst w2;rw[show (decide ((1:Int)<=1)&&decide ((1:Int)<=1000000))=true by decide];go_wp2_with fail;refine (uc 1 1 1000000 w1).mono ?_;rintro e w2 ⟨rfl,aX⟩;subst w2;rw[show (decide ((1:Int)<=1)&&decide ((1:Int)<=1000000))=true by decide];go_wp2_with fail;refine (jE ⟨#[46]⟩ Zl w1).mono ?_;rintro e w2 ⟨rfl,ag⟩;rw[show Np.ao ((⟨#[46]⟩:ByteArray)).data.toList=true by decide];have ax:=aRQ aH ag;have d8:=jq ((HR.out.keep ag).more ag.size);have x7:=jq (vo _ _ _ _ _ (vm _ _ _ _ _ HE.out ag) ag.size);clear k0 k1 k2 k3 k4 k5 k6 k7 k8;have k0:=aQY ag (HP.out 0 _ rfl);have k5:=aQY ag (HP.out 5 _ rfl);have k6:=aQY ag (HP.out 6 _ rfl);have k7:=aQY ag (HP.out 7 _ rfl);have k8:=aQY ag (HP.out 8 _ rfl);clear ag;go_wp2_with fail;refine (uc 4 1 8 w2).mono ?_;rintro e w3 ⟨rfl,ci⟩;subst w3;rw[show (decide ((1:Int)<=4)&&decide ((4:Int)<=8))=true by decide];go_wp2_with fail;refine (apJ a [.int .i64 ak,.slice A N C,.string cut] w2 d8.out x7.out).mono ?_;rintro e w3 ⟨rfl,ai⟩;have am:=jq (ax.out.trans (ai.mono ax.out.size));clear ai;go_wp2_with fail;go_ret;exact⟨rfl,am.out⟩
theorem aJJ(a:Np.Ans)(A:Option Addr)(N C:Nat)(cut:ByteArray)(ak:Int)(kP:a.kind=ak)(w:World)(hR:bL w w.heap.size)(he:lZ w w.heap.size [.int .i64 ak,.slice A N C,.string cut] a) :
 Calls prog 43 #[.agg #[.int .i64 ak,.slice A N C,.string cut]] w λe w'=>e = .returned (.bool (Np.mL a))/\Below w.heap.size w w':=by
 obtain⟨X,hX⟩:=aRZ w.heap.size;obtain⟨w1,ah⟩:=aRZ (w.alloc (.cells #[.int .i64 ak,.slice A N C,.string cut] 29));obtain⟨w2,aX⟩:=aRZ (w1.alloc (.cells #[.string ⟨#[46]⟩,.int .i64 4] 27));have ay:Below w.heap.size w w1:=by rw[<-ah];exact aj _ _
 have bx:w1.heap.size=X+1:=by rw[<-ah,<-hX];simp
 have ag:Below w1.heap.size w1 w2:=by rw[<-aX];exact aj _ _
 have p:=bD (r:=[.int .i64 ak,.slice A N C,.string cut]) hX ah;have k0:=aQY ag (p 0 _ rfl);have k1:=aQY ag (p 1 _ rfl);have k2:=aQY ag (p 2 _ rfl);have q:=bD (r:=[.string ⟨#[46]⟩,.int .i64 4]) bx aX;have q0:=q 0 _ rfl;have q1:=q 1 _ rfl;have hb:=ay.trans (ag.aSZ);have HB:=jq hb;have HR:=jq ((hR.keep hb).more hb.size);have HE:=jq (vo _ _ _ _ _ (vm _ _ _ _ _ he hb) hb.size);clear ay ag hR he p q hb;go_enter func43,ntmps43;go_wp2_with fail;clear ah;go_wp2_with fail;clear aX;go_wp2_with fail;refine (apZ a A N C cut ak kP w2 HR.out HE.out).mono ?_;rintro e w3 ⟨rfl,ai⟩;have am:=jq (HB.out.trans (ai.mono HB.out.size));clear ai;go_wp2_with fail;go_ret;exact⟨rfl,am.out⟩
theorem Qg(Q:Nat)(qn:ByteArray)(qt:Int)(cA:qn.size<=140737488355328)(w:World)(hq:w.heap[Q]?=some (.cells [Value.string qn,.int .i64 qt].toArray 27 (0,0))):jm (.func (.func 109) #[] #[.pointer (some ⟨Q,0,none⟩)]) (λx=>decide (x.type=8)||(decide (x.type=4)&&Np.aT qn.data.toList x.name)) w:=
 ⟨_,_,rfl,Xf,λW e x hW he=>auY Q qn qt cA W ((hW.block Q (eQ.1 hq).1).trans hq) x e he⟩
theorem awJ(Q:Nat)(qn:ByteArray)(qt:Int)(cA:qn.size<=140737488355328)(w:World)(hq:w.heap[Q]?=some (.cells [Value.string qn,.int .i64 qt].toArray 27 (0,0))):jm (.func (.func 110) #[] #[.pointer (some ⟨Q,0,none⟩)]) (λx=>x.name == qn.data.toList&&decide (x.type=qt)) w:=
 ⟨_,_,rfl,Xg,λW e x hW he=>avQ Q qn qt cA W ((hW.block Q (eQ.1 hq).1).trans hq) x e he⟩
theorem awK(Q:Nat)(qn:ByteArray)(qt:Int)(cA:qn.size<=140737488355328)(w:World)(hq:w.heap[Q]?=some (.cells [Value.string qn,.int .i64 qt].toArray 27 (0,0))):jm (.func (.func 111) #[] #[.pointer (some ⟨Q,0,none⟩)]) (λx=>decide (x.type=8)||(decide (x.type=qt)&&Np.pf x.name qn.data.toList)) w:=
 ⟨_,_,rfl,Xh,λW e x hW he=>avZ Q qn qt cA W ((hW.block Q (eQ.1 hq).1).trans hq) x e he⟩
theorem awX(Q:Nat)(qn:ByteArray)(qt:Int)(cA:qn.size<=140737488355328)(w:World)(hq:w.heap[Q]?=some (.cells [Value.string qn,.int .i64 qt].toArray 27 (0,0))):jm (.func (.func 113) #[] #[.pointer (some ⟨Q,0,none⟩)]) (λx=>decide (x.type=8)||(decide (x.type=3)&&(x.name == qn.data.toList||Np.pf x.name qn.data.toList))) w:=
 ⟨_,_,rfl,Xi,λW e x hW he=>avJ Q qn qt cA W ((hW.block Q (eQ.1 hq).1).trans hq) x e he⟩
theorem awY(w:World):jm (.func (.func 115) #[] #[]) (λ_=>false) w:=⟨_,#[],rfl,Xj,λW e x _ he=>avK W x e he⟩
theorem jm.form{rv:Value}{p:Np.DSet->Bool}{w:World}(h:jm rv p w):∃ f cap,rv = .func (.func f) #[] cap:=by obtain⟨f,cap,h,_⟩:=h;exact⟨f,cap,h⟩
theorem jm.same{rv:Value}{p p':Np.DSet->Bool}{w:World}(h:jm rv p w)(hp:∀ x,p x=p' x):jm rv p' w:=(funext hp:p=p') ▸ h
theorem awQ(z qn:ByteArray)(hz:z.size<=140737488355328)(cA:qn.size<=140737488355328)(qt:Int)(a:Np.Ans)(A:Option Addr)(N C:Nat)(cut:ByteArray)(ak:Int)(kP:a.kind=ak)(yZ:1<=ak/\ak<=7)(w:World)(he:lZ w w.heap.size [.int .i64 ak,.slice A N C,.string cut] a)(mu:∀ y∈a.sets,y.set.data.length<=100000) :
 Calls prog 45 #[.string z,.agg #[.string qn,.int .i64 qt],.agg #[.int .i64 ak,.slice A N C,.string cut]] w λe w'=>(∃ rv,e = .returned rv/\jm rv (Np.ll z.data.toList qn.data.toList qt a) w')/\Below w.heap.size w w':=by
 obtain⟨X,hX⟩:=aRZ w.heap.size;obtain⟨w1,ah⟩:=aRZ (w.alloc (.cells #[.string qn,.int .i64 qt] 27));obtain⟨w2,aX⟩:=aRZ (w1.alloc (.cells #[.int .i64 ak,.slice A N C,.string cut] 29));have z1:w1.heap.size=X+1:=by rw[<-ah,<-hX];simp
 have z2:w2.heap.size=X+1+1:=by rw[<-aX];simp[z1]
 have ay:Below w.heap.size w w1:=by rw[<-ah];exact aj _ _
 have ag:Below w1.heap.size w1 w2:=by rw[<-aX];exact aj _ _
 have hb:=ay.trans (ag.aSZ);have ax:=jq hb;have jg:Hid (w2.heap[X]?=some (.cells [Value.string qn,.int .i64 qt].toArray 27 (0,0))):=jq ((ag.block X (by omega)).trans (by rw[<-ah,<-hX];exact heap_alloc_new _ _));have gK:Hid (w2.heap[X+1]?=some (.cells [Value.int .i64 ak,.slice A N C,.string cut].toArray 29 (0,0))):=jq (by rw[<-aX,<-z1];exact heap_alloc_new _ _);have x7:=jq (vo _ _ _ _ _ (vm _ _ _ _ _ he hb) hb.size);have q0:=ae _ jg.out 0 _ rfl;have q1:=ae _ jg.out 1 _ rfl;have d0:=ae _ gK.out 0 _ rfl;have d1:=ae _ gK.out 1 _ rfl;have d2:=ae _ gK.out 2 _ rfl;have HX:=jq hX;have pz:=jq mu;have mG:=jq kP;have Ee:=jq yZ;have cr:X+1+1<=w2.heap.size:=by omega
 clear ay ag hb he mu kP yZ;go_enter func45,ntmps45;go_wp2_with fail;clear ah aX;go_wp2_with fail;refine (atZ z qn hz cA qt a [.int .i64 ak,.slice A N C,.string cut] w2 x7.out pz.out).mono ?_;rintro e w3 ⟨⟨rv,rfl,Ai⟩,ai⟩;have rX:=jq Ai;obtain⟨rf,rc,rfl⟩:=Ai.form;have am:=jq (ax.out.trans (ai.mono ax.out.size));have El:=jq ai;have nJ:X+1+1<=w3.heap.size:=by have:=ai.size;omega
 have qy:=jq ((ai.block (X+1) (by omega)).trans gK.out);have iM:=jq ((ai.block X (by omega)).trans jg.out);clear Ai ai q0 q1 d0 d1 d2 z1 z2;obtain⟨AR,X6⟩:=aRZ w3.heap.size;obtain⟨w4,dD⟩:=aRZ (w3.alloc (.cells #[.nilFunc,.func (.func 110) #[] #[.pointer (some ⟨X,0,none⟩)],.func (.func 111) #[] #[.pointer (some ⟨X,0,none⟩)],.func (.func 113) #[] #[.pointer (some ⟨X,0,none⟩)],.func (.func rf) #[] rc,.func (.func 109) #[] #[.pointer (some ⟨X,0,none⟩)],.func (.func 109) #[] #[.pointer (some ⟨X,0,none⟩)],.func (.func 115) #[] #[]] 153));have av:Below w3.heap.size w3 w4:=by rw[<-dD];exact aj _ _
 have z4:w3.heap.size<w4.heap.size:=by rw[<-dD];simp
 have p4:=bD (r:=[.nilFunc,.func (.func 110) #[] #[.pointer (some ⟨X,0,none⟩)],.func (.func 111) #[] #[.pointer (some ⟨X,0,none⟩)],.func (.func 113) #[] #[.pointer (some ⟨X,0,none⟩)],.func (.func rf) #[] rc,.func (.func 109) #[] #[.pointer (some ⟨X,0,none⟩)],.func (.func 109) #[] #[.pointer (some ⟨X,0,none⟩)],.func (.func 115) #[] #[]]) X6 dD;have rO:=jq ((av.block (X+1) (by omega)).trans qy.out);have kz:=jq ((av.block X (by omega)).trans iM.out);have aF:=jq (am.out.trans (av.mono am.out.size));have TP:=jq (rX.out.keep av);have ir:=jq p4;have d0:=ae _ rO.out 0 _ rfl;clear av p4 z4;have hcs:ak=1\/ak=2\/ak=3\/ak=4\/ak=5\/ak=6\/ak=7:=by have:=Ee.out;omega
 rcases hcs with rfl | rfl | rfl | rfl | rfl | rfl | rfl
 ·have g1:=ir.out 1 _ rfl;go_wp2_with fail;go_ret;exact⟨⟨_,rfl,(awJ X qn qt cA _ kz.out).same (λx=>by unfold Np.ll;rw[mG.out];rfl)⟩,aF.out⟩
 ·have g2:=ir.out 2 _ rfl;go_wp2_with fail;go_ret;exact⟨⟨_,rfl,(awK X qn qt cA _ kz.out).same (λx=>by unfold Np.ll;rw[mG.out];rfl)⟩,aF.out⟩
 ·have g3:=ir.out 3 _ rfl;go_wp2_with fail;go_ret;exact⟨⟨_,rfl,(awX X qn qt cA _ kz.out).same (λx=>by unfold Np.ll;rw[mG.out];rfl)⟩,aF.out⟩
 ·have g4:=ir.out 4 _ rfl;go_wp2_with fail;go_ret;exact⟨⟨_,rfl,(TP.out).same (λx=>by unfold Np.ll;rw[mG.out];rfl)⟩,aF.out⟩
 ·have g5:=ir.out 5 _ rfl;go_wp2_with fail;go_ret;exact⟨⟨_,rfl,(Qg X qn qt cA _ kz.out).same (λx=>by unfold Np.ll;rw[mG.out];rfl)⟩,aF.out⟩
 ·have g6:=ir.out 6 _ rfl;go_wp2_with fail;go_ret;exact⟨⟨_,rfl,(Qg X qn qt cA _ kz.out).same (λx=>by unfold Np.ll;rw[mG.out];rfl)⟩,aF.out⟩
 ·have g7:=ir.out 7 _ rfl;go_wp2_with fail;go_ret;exact⟨⟨_,rfl,(awY _).same (λx=>by unfold Np.ll;rw[mG.out];rfl)⟩,aF.out⟩
def Jb(p:List Np.Signed×Int)(w:World)(e:Ending)(w':World):Prop:=∃ (A:Option Addr) (n c:Nat),e = .returned (.tuple #[.slice A n c,.int .i64 p.2])/\SlR aB 5 w' w'.heap.size (.slice A n c) p.1/\Below w.heap.size w w'
theorem Np.Cm{zone qn:List UInt8}{qt:Int}{a:Np.Ans}(h:Np.vy zone=false\/(Np.ao qn&&(decide (1<=qt)&&decide (qt<=8)))=false\/Np.mL a=false):Np.fO zone qn qt a=([],1):=by
 unfold Np.fO;rw[QbQ];rcases h with h | h | h
 ·exact .inl h
 ·exact .inr (.inl (Np.QW λq=>by
   have h5:=q.1;have h6:=q.2;simp only[h5,h6,decide_true,Bool.and_self] at h
   cases h))
 ·exact .inr (.inr h)
theorem Np.Fz{zone qn:List UInt8}{qt:Int}{a:Np.Ans}(h1:Np.vy zone=true)(h2:(Np.ao qn&&(decide (1<=qt)&&decide (qt<=8)))=true)(h3:Np.mL a=true):Np.fO zone qn qt a=if Np.aT qn zone=false then ([],0) else (a.sets.filter (Np.lD zone qn qt a),0):=by
 simp only[Bool.and_eq_true,Qa] at h2;unfold Np.fO;rw[Qc];rintro (h | h | h)
 ·rw[h1] at h;cases h
 ·rw[Np.QX ⟨h2.1,h2.2.1,h2.2.2⟩] at h;cases h
 ·rw[h3] at h;cases h
theorem yV(z qn:ByteArray)(hz:z.size<=140737488355328)(cA:qn.size<=140737488355328)(qt:Int)(a:Np.Ans)(e:List Value)(w:World)(hR:bL w w.heap.size)(he:lZ w w.heap.size e a)(mu:∀ y∈a.sets,y.set.data.length<=100000/\y.sigs.length<=100000) :
 Calls prog 13 #[.string z,.agg #[.string qn,.int .i64 qt],.agg e.toArray] w (Jb (Np.fO z.data.toList qn.data.toList qt a) w):=by
 have HE:=jq he;obtain⟨A,N,C,cut,rfl,hN,_,zk,hv,hc,hcs⟩:=he.form;obtain⟨X,hX⟩:=aRZ w.heap.size;obtain⟨ak,kP⟩:=aRZ a.kind;rw[kP] at HE |-;obtain⟨w1,ah⟩:=aRZ (w.alloc (.cells #[.string qn,.int .i64 qt] 27));obtain⟨w2,aX⟩:=aRZ (w1.alloc (.cells #[.int .i64 ak,.slice A N C,.string cut] 29));have z1:w1.heap.size=X+1:=by rw[<-ah,<-hX];simp
 have z2:w2.heap.size=X+1+1:=by rw[<-aX];simp[z1]
 have ay:Below X w w1:=by rw[<-ah,<-hX];exact aj _ _
 have ag:Below w1.heap.size w1 w2:=by rw[<-aX];exact aj _ _
 have ax:=jq (ay.trans (ag.aSZ));have jg:Hid (w2.heap[X]?=some (.cells [Value.string qn,.int .i64 qt].toArray 27 (0,0))):=jq ((ag.block X (by omega)).trans (by rw[<-ah,<-hX];exact heap_alloc_new _ _));have gK:Hid (w2.heap[X+1]?=some (.cells [Value.int .i64 ak,.slice A N C,.string cut].toArray 29 (0,0))):=jq (by rw[<-aX,<-z1];exact heap_alloc_new _ _);rw[hX] at hv hR HE;have HV:=jq hv;have HN:=jq hN;have HX:=jq hX;have mG:=jq kP;have pz:=jq mu;have dK:=jq hR;have BJ:Hid (∀ W,Below X w W->X<=W.heap.size->bL W W.heap.size/\lZ W W.heap.size [.int .i64 ak,.slice A N C,.string cut] a):=jq (λW hW hz=>⟨(dK.out.keep hW).more hz,vo _ _ _ _ _ (vm _ _ _ _ _ HE.out hW) hz⟩);have cr:X+1+1<=w2.heap.size:=by omega
 obtain⟨RES,co⟩:=aRZ (Np.fO z.data.toList qn.data.toList qt a);rw[co];have aO:=jq co;have ga:Hid (∀ W,Below X w W->RES=([],1)->Jb RES w (.returned (.tuple #[.slice none 0 0,.int .i64 1])) W):=jq (λW hW hr=>by rw[hr];exact⟨none,0,0,rfl,g8 _ _,by rw[HX.out];exact hW⟩);clear ay ag hv hN hc mu he kP hR co;go_enter func13,ntmps13;go_wp2_with fail;clear ah aX;go_wp2_with fail;refine (aQK z hz w2).mono ?_;rintro e w3 ⟨rfl,ai⟩;have am:=aRQ ax ai;have iM:=jq ((ai.block X (by omega)).trans jg.out);have qy:=jq ((ai.block (X+1) (by omega)).trans gK.out);have nJ:X+1+1<=w3.heap.size:=by have:=ai.size;omega
 clear ai z1 z2;obtain⟨c1,bi⟩:=aRZ (Np.vy z.data.toList);rw[bi];have cy:=jq bi;clear bi
 cases c1 with
 | false=>
  go_wp2_with fail;go_ret2;exact ga.out _ am.out (by rw[<-aO.out,Np.Cm (.inl cy.out)])
 | true=>
 have q0:=ae _ iM.out 0 _ rfl;have q1:=ae _ iM.out 1 _ rfl;go_wp2_with fail;refine (QG qn cA qt w3).mono ?_;rintro e w4 ⟨rfl,av⟩;have aF:=aRQ am av;have kz:=jq ((av.block X (by omega)).trans iM.out);have rO:=jq ((av.block (X+1) (by omega)).trans qy.out);have ve:X+1+1<=w4.heap.size:=by have:=av.size;omega
 clear av q0 q1;obtain⟨c2,dR⟩:=aRZ (Np.ao qn.data.toList&&(decide (1<=qt)&&decide (qt<=8)));rw[dR];have gd:=jq dR;clear dR
 cases c2 with
 | false=>
  go_wp2_with fail;go_ret2;exact ga.out _ aF.out (by rw[<-aO.out,Np.Cm (.inr (.inl gd.out))])
 | true=>
 have d0:=ae _ rO.out 0 _ rfl;have d1:=ae _ rO.out 1 _ rfl;have d2:=ae _ rO.out 2 _ rfl;go_wp2_with fail;refine (aJJ a A N C cut ak mG.out w4 (BJ.out w4 aF.out (by omega)).1 (BJ.out w4 aF.out (by omega)).2).mono ?_;rintro e w5 ⟨rfl,aI⟩;have aK:=aRQ aF aI;have px:=jq ((aI.block X (by omega)).trans kz.out);have RP:=jq ((aI.block (X+1) (by omega)).trans rO.out);have th:X+1+1<=w5.heap.size:=by have:=aI.size;omega
 clear aI d0 d1 d2;obtain⟨c3,iB⟩:=aRZ (Np.mL a);rw[iB];have g9:=jq iB;clear iB
 cases c3 with
 | false=>
  go_wp2_with fail;go_ret2;exact ga.out _ aK.out (by rw[<-aO.out,Np.Cm (.inr (.inr g9.out))])
 | true=>
 have Ko:Hid (RES=if Np.aT qn.data.toList z.data.toList=false then ([],0) else (a.sets.filter (Np.lD z.data.toList qn.data.toList qt a),0)):=jq (by rw[<-aO.out,Np.Fz cy.out gd.out g9.out]);have yZ:1<=ak/\ak<=7:=by
  have h:=g9.out;unfold Np.mL at h;simp only[Bool.and_eq_true,Qa] at h;rw[mG.out] at h;exact h.1
 have Ee:=jq yZ;have q0:=ae _ px.out 0 _ rfl;clear yZ ga;go_wp2_with fail;refine (qk qn z cA hz w5).mono ?_;rintro e w6 ⟨rfl,bh⟩;have aU:=aRQ aK bh;have vM:=jq ((bh.block X (by omega)).trans px.out);have qz:=jq ((bh.block (X+1) (by omega)).trans RP.out);have rm:X+1+1<=w6.heap.size:=by have:=bh.size;omega
 clear bh q0;obtain⟨c4,wK⟩:=aRZ (Np.aT qn.data.toList z.data.toList);rw[wK];have JE:=jq wK;clear wK
 cases c4 with
 | false=>
  go_wp2_with fail;go_ret2;rw[Ko.out,QbQ JE.out];exact⟨none,0,0,rfl,g8 _ _,by rw[HX.out];exact aU.out⟩
 | true=>
 have Kp:Hid (RES=(a.sets.filter (Np.lD z.data.toList qn.data.toList qt a),0)):=jq (by rw[Ko.out,Qc (by rw[JE.out];decide)]);have q0:=ae _ vM.out 0 _ rfl;have q1:=ae _ vM.out 1 _ rfl;have d0:=ae _ qz.out 0 _ rfl;have d1:=ae _ qz.out 1 _ rfl;have d2:=ae _ qz.out 2 _ rfl;go_wp2_with fail;refine (awQ z qn hz cA qt a A N C cut ak mG.out Ee.out w6 (BJ.out w6 aU.out (by omega)).2 (λy hy=>(pz.out y hy).1)).mono ?_;rintro e w7 ⟨⟨rv,rfl,Ai⟩,bm⟩;obtain⟨rf,rc,rfl,eg,OR⟩:=Ai;have vP:=jq OR;have cL:=aRQ aU bm;have Bo:=jq ((bm.block (X+1) (by omega)).trans qz.out);have ti:X+1+1<=w7.heap.size:=by have:=bm.size;omega
 clear bm q0 q1 d0 d1 d2 OR;obtain⟨p,hp⟩:=aRZ (Np.lD z.data.toList qn.data.toList qt a);rw[hp] at Kp;have HP:Hid (∀ s,p s=(Np.aT s.set.name z.data.toList&&Np.ll z.data.toList qn.data.toList qt a s.set)):=jq (λs=>by rw[<-hp];rfl);obtain⟨may,Oz⟩:=aRZ (Np.ll z.data.toList qn.data.toList qt a);rw[Oz] at vP HP;clear hp Oz;have d1:=ae _ Bo.out 1 _ rfl;obtain⟨B,hB⟩:=aRZ w7.heap.size;obtain⟨i0,wS,cH,Z1,Z2⟩:=info_parts Tryz.infoSgn5;have aVZ:N<=40:=by
  have h:=g9.out;unfold Np.mL at h;simp only[Bool.and_eq_true,Qa] at h;rw[HN.out] at h;exact h.2.1
 go_wp2_with fail;go_loopw [9,37] (λlv i wr=>∃ (k m:Nat) (oA:Option Addr) (oc:Nat) (M:Nat->Prop),k<=N/\i = .int .i64 k/\lv = .slice oA m oc/\m<=k/\Hid (((a.sets.take k).filter p).length=m)/\Hid (∀ j,M j->B<=j/\j<wr.heap.size)/\Hid (dN aB 5 44 B M wr (.slice oA m oc) ((a.sets.take k).filter p))/\Hid (Below B w7 wr)) (λ_ i _=>N - (intOf i).toNat)
 case atStart=>exact⟨0,0,none,0,λ_=>False,jQ _,rfl,rfl,bQ _,jq rfl,jq (λj h=>h.elim),jq (dN.nil _),jq (vQ _ _)⟩
 case round=>
  obtain⟨k,m,oA,oc,M,hk,rfl,rfl,gH,no,BC,HO,dW⟩:=hrel;obtain⟨ws,rfl⟩:=aRX wr;have dV:B<=ws.heap.size:=by have:=dW.out.size;omega
  have bU:=aRQ cL dW.out;by_cases af:k<N
  ·obtain⟨y,gI⟩:∃ y,a.sets[k]?=some y:=⟨_,aQ (by rw[HN.out];exact af)⟩;obtain⟨b,o,c2,s,dv,sv,hA,dB,_,dq,eX,bZ,cx,e0,e1,e2,e3,e4⟩:=mE (HV.out.keep az bU.out) gI;simp only[Value.slice.injEq] at hA;obtain⟨rfl,-,rfl⟩:=hA;obtain⟨dA,dn,dc,rfl,ju,_,wM⟩:=aM bZ;obtain⟨gA,gn,gc,rfl,iZ,_,_⟩:=aM cx;have fe:Hid ((a.sets.take (k+1)).filter p=(a.sets.take k).filter p++if p y then [y] else []):=jq (by
    obtain⟨hl,he⟩:=cQ.1 gI;rw[qP hl,he])
   have jj:=jq (And.intro dq (And.intro eX (And.intro ju iZ)));have LI:=jq (pz.out y (gQ gI));have dS:(0:Int)<=(k:Int):=by omega
   have dp:(k:Int)<(N:Int):=by omega
   obtain⟨E,hE⟩:=aRZ ws.heap.size;obtain⟨w8,dU⟩:=aRZ (ws.alloc (.cells #[.string s,.int .i64 y.set.type,.int .i64 y.set.life,.slice dA dn dc,.slice gA gn gc] 44));have cu:Below ws.heap.size ws w8:=by rw[<-dU];exact aj _ _
   have z8:w8.heap.size=E+1:=by rw[<-dU,<-hE];simp
   have p8:=bD (r:=[.string s,.int .i64 y.set.type,.int .i64 y.set.life,.slice dA dn dc,.slice gA gn gc]) hE dU;have gh:Hid (∀ W,Below X w W->X<=W.heap.size->SlR bS 3 W W.heap.size (.slice dA dn dc) y.set.data/\SlR dw 6 W W.heap.size (.slice gA gn gc) y.sigs):=jq (λW hW hz=>⟨((AL bZ bU.out (λ_ _ h=>h)).keep br hW).more bB hz,((AL cx bU.out (λ_ _ h=>h)).keep cK hW).more da hz⟩);have BF:=jq p8;have cT:=jq cu;have yG:=jq z8;have Bt:=jq hE;have v0:=p8 0 _ rfl;have v1:=p8 1 _ rfl;have v2:=p8 2 _ rfl;have v3:=p8 3 _ rfl;have v4:=p8 4 _ rfl;clear gI dq bZ cx ju iZ cu p8;go_wp2_with fail;clear dU e0 e1 e2 e3 e4;go_wp2_with fail;refine (qk s z jj.out.2.1 hz w8).mono ?_;rintro e w9 ⟨rfl,bM⟩;have cZ:=jq (cT.out.trans (bM.mono (by have:=yG.out;omega)));have yn:Hid (∀ j u,[Value.string s,.int .i64 y.set.type,.int .i64 y.set.life,.slice dA dn dc,.slice gA gn gc][j]?=some u->w9.cell? ⟨E,j,none⟩=some u):=jq (λj u hj=>(bM.cell (p:=⟨E,j,none⟩) (by have:=yG.out;dsimp only;omega)).trans (BF.out j u hj));have Hp:E+1<=w9.heap.size:=by have:=bM.size;have:=yG.out;omega
   clear bM v0 v1 v2 v3 v4 z8;obtain⟨c5,CM⟩:=aRZ (Np.aT s.data.toList z.data.toList);rw[CM];rw[jj.out.1] at CM;have Bf:=jq CM;clear CM
   cases c5 with
   | false=>
    have gM:Hid (p y=false):=jq (by rw[HP.out,Bf.out];rfl);go_wp2_with fail;go_roundw
    case rel=>exact⟨k+1,m,oA,oc,M,by omega,by go_num,rfl,by omega,jq (by rw[fe.out,Qc (by rw[gM.out];decide),List.append_nil];exact no.out),jq (λj hj=>by have h1:=BC.out j hj;have h2:=cZ.out.size;omega),jq (by rw[fe.out,Qc (by rw[gM.out];decide),List.append_nil];exact HO.out.keep az kj bf cZ.out),aRQ dW cZ.out⟩
    ·simp[intOf]<;>omega
   | true=>
   have v0:=yn.out 0 _ rfl;have v1:=yn.out 1 _ rfl;have v2:=yn.out 2 _ rfl;have v3:=yn.out 3 _ rfl;have jN:=aRQ bU cZ.out;have YF:X<=w9.heap.size:=by omega
   have Vf:Hid (Below w7.heap.size w7 w9):=jq (by rw[hB];exact dW.out.trans (cZ.out.aSZ));have hc:=vP.out w9 [.string s,.int .i64 y.set.type,.int .i64 y.set.life,.slice dA dn dc] y.set Vf.out ⟨s,_,jj.out.1,jj.out.2.1,(gh.out w9 jN.out YF).1,rfl⟩;have vH:=jq hc;clear hc;go_wp2_with fail;refine vH.out.mono ?_;rintro e wa ⟨rfl,mR⟩;have fl:=aRQ cZ mR;have Pg:E+1<=wa.heap.size:=by have:=mR.size;omega
   have tK:Hid (∀ j u,[Value.string s,.int .i64 y.set.type,.int .i64 y.set.life,.slice dA dn dc,.slice gA gn gc][j]?=some u->wa.cell? ⟨E,j,none⟩=some u):=jq (λj u hj=>aQY mR (yn.out j u hj));clear mR v0 v1 v2 v3;obtain⟨c6,Gp⟩:=aRZ (may y.set);rw[Gp];have Bg:=jq Gp;clear Gp
   cases c6 with
   | false=>
    have gM:Hid (p y=false):=jq (by rw[HP.out,Bg.out];simp);go_wp2_with fail;go_roundw
    case rel=>exact⟨k+1,m,oA,oc,M,by omega,by go_num,rfl,by omega,jq (by rw[fe.out,Qc (by rw[gM.out];decide),List.append_nil];exact no.out),jq (λj hj=>by have h1:=BC.out j hj;have h2:=fl.out.size;omega),jq (by rw[fe.out,Qc (by rw[gM.out];decide),List.append_nil];exact HO.out.keep az kj bf fl.out),aRQ dW fl.out⟩
    ·simp[intOf]<;>omega
   | true=>
   have gM:Hid (p y=true):=jq (by rw[HP.out,Bf.out,Bg.out];rfl);have qH:=aRQ bU fl.out;have NC:X<=wa.heap.size:=by omega
   have v0:=tK.out 0 _ rfl;have v1:=tK.out 1 _ rfl;have v2:=tK.out 2 _ rfl;have v3:=tK.out 3 _ rfl;have v4:=tK.out 4 _ rfl;go_wp2_with fail;refine (L5 s y.set.type y.set.life _ y.set.data _ y.sigs (by have:=LI.out.1;omega) (by have:=LI.out.2;omega) wa (gh.out wa qH.out NC).1 (gh.out wa qH.out NC).2).mono ?_;rintro e wC ⟨dv2,gv2,rfl,jr,mP⟩;have Pe:=mP.size;have mH:Hid (D8 wa.heap.size wC dv2 gv2 y.set.data y.sigs):=jq jr;obtain⟨dA2,dc2,rfl,_,_⟩:=fc ((jr (λ_=>False) (λ_ e=>e.elim)).1);obtain⟨gA2,gc2,rfl,_,_⟩:=fc ((jr (λ_=>False) (λ_ e=>e.elim)).2);rw[jj.out.2.2.1,jj.out.2.2.2] at mH |-;have fL:=aRQ fl mP;clear jr mP v0 v1 v2 v3 v4;obtain⟨wX,u6⟩:=aRZ (wC.alloc (.cells #[.string s,.int .i64 y.set.type,.int .i64 y.set.life,.slice dA2 dn dc2,.slice gA2 gn gc2] 44));have jp:Below wC.heap.size wC wX:=by rw[<-u6];exact aj _ _
   have zB:eB wX wC.heap.size 0 [.string s,.int .i64 y.set.type,.int .i64 y.set.life,.slice dA2 dn dc2,.slice gA2 gn gc2]:=L2 (w:=wC) _ _ rfl u6.symm;have Hq:=jp.size;have tF:=jq zB;have iK:=aRQ fL jp;have ym:=jq (HO.out.keep az kj bf iK.out);have yp:Hid (aB (cB wX M) wX.heap.size [.string s,.int .i64 y.set.type,.int .i64 y.set.life,.slice dA2 dn dc2,.slice gA2 gn gc2] y):=jq (by
    have h1:=mH.out M (λj hj=>by have:=BC.out j hj;omega);have h2:=(Leaves'.of_below (M:=M) jp).slr br Ik bB h1.1;have h3:=(Leaves'.of_below (M:=M) jp).slr cK Ir da h1.2;exact⟨s,_,_,jj.out.1,jj.out.2.1,h2,h3,rfl⟩)
   clear jp zB;go_wp2_with (at_builtin;refine aPJ (R:=aB) (M:=M) wX rfl _ _ 22 rfl B 44 i0 (.agg #[.string ⟨#[]⟩,.int .i64 0,.int .i64 0,.slice none 0 0,.slice none 0 0]) 80 underlying22 wS cH Z1 Z2 rfl (by decide) (.slice oA m oc) _ rfl ym.out (some ⟨wC.heap.size,0,none⟩) 1 [y] rfl (P7 rfl yp.out tF.out) P8 (by rw[no.out];simp[maxLen];omega) (by rw[no.out];simp;omega) (by omega) az kj bf ?_;intro v8 wY mp j8 uw;obtain⟨A8,c8,rfl⟩:=mp.formN (n:=m+1) (by rw[List.length_append,no.out];rfl);have H8:=jq (And.intro mp (And.intro j8 uw));clear mp j8 uw);go_roundw
   case rel=>
    have Pf:=H8.out.2.1.size;have YM:Below B w7 wY:=dW.out.trans ((iK.out.aSZ).trans ((vQ _ _).grown H8.out.2.1 (by omega) (λj e=>(ym.out.lt j e).1)));refine⟨k+1,m+1,A8,c8,_,by omega,by go_num,rfl,by omega,jq (by rw[fe.out,QbQ gM.out,List.length_append,no.out];rfl),jq (λj hj=>?_),jq (by rw[fe.out,QbQ gM.out];exact H8.out.1),jq YM⟩;rcases hj with hj | hj
    ·have:=BC.out j hj;omega
    ·have:=H8.out.1.lt j hj;exact this
   case measure=>simp[intOf]<;>omega
  ·obtain rfl:k=N:=by omega
   have yw:Hid (a.sets.take k=a.sets):=jq (kQ (by rw[HN.out];omega));rw[yw.out] at HO no;go_wp2_with fail;go_ret2;rw[Kp.out];exact⟨_,_,_,rfl,HO.out.slr kj (by rw[no.out];omega),by rw[HX.out];exact bU.out⟩
end
namespace Np
open Go.RowKit
def AJ(name:List UInt8)(kind n m:Int)(zone:List UInt8)(key:Int):Signed:=
 ⟨⟨name,kind,60,[⟨[],n,m⟩]⟩,[⟨zone,key,1,0,100,lu ⟨name,kind,60,[⟨[],n,m⟩]⟩ ⟨zone.toArray⟩ key 1 0 100⟩]⟩
def ex0:Signed:=AJ [46] 7 1 1 [46] 1
def ex1:Signed:=AJ [120] 6 3 1 [46] 1
def ex2:Signed:=AJ [120] 7 3 1 [120] 3
def ex3:Signed:=AJ [119,46,120] 1 7 0 [120] 3
def exR:DSet:=(AJ [46] 6 1 1 [46] 1).set
def exB(sum:Int):Signed:=⟨ex3.set,[⟨[120],3,1,0,100,sum⟩]⟩
def Cj:Int:=(lu ex3.set ⟨#[120]⟩ 3 1 0 100+1) % 18446744073709551616
set_option maxRecDepth 100000
theorem Xs:eY [ex0,ex1,ex2,ex3] exR [119,46,120] 1 50 5=(⟨1,([],0),[ex3]⟩,0):=by
 rw[xA (by kernel_rfl) (by kernel_rfl) rfl rfl (by kernel_rfl) (by kernel_rfl)]
 kernel_rfl
theorem Fv:eY [ex0,ex1,ex3] exR [119,46,120] 1 50 5=(⟨3,([120],7),[]⟩,0):=by
 rw[xA (by kernel_rfl) (by kernel_rfl) rfl rfl (by kernel_rfl) (by kernel_rfl)]
 kernel_rfl
theorem Xt:eY [ex0,ex1,ex2] exR [119,46,120] 1 50 5=(⟨3,([119,46,120],1),[]⟩,0):=by
 rw[xA (by kernel_rfl) (by kernel_rfl) rfl rfl (by kernel_rfl) (by kernel_rfl)]
 kernel_rfl
theorem Xr:eY [ex0,ex1,ex2,ex3] exR [119,46,120] 1 96 5=(⟨2,([],0),[]⟩,0):=by
 rw[xA (by kernel_rfl) (by kernel_rfl) rfl rfl (by kernel_rfl) (by kernel_rfl)]
 kernel_rfl
theorem Xq:eY [ex0,ex1,ex2,exB Cj] exR [119,46,120] 1 50 5=(⟨2,([],0),[]⟩,0):=by
 rw[xA (by kernel_rfl) (by kernel_rfl) rfl rfl (by kernel_rfl) (by kernel_rfl)]
 kernel_rfl
theorem Mt:eY [ex0,ex1,ex2,ex3] ex1.set [99,46,121,46,120] 1 50 5=(⟨0,([],0),[]⟩,1):=Aw (.inr (.inr (.inr (by decide))))
def rfS:Signed:=⟨⟨[121,46,120],2,0,[⟨[97,46,121,46,120],0,0⟩]⟩,[]⟩
def rfA:Signed:=⟨⟨[97,46,121,46,120],1,0,[⟨[],1,0⟩]⟩,[]⟩
def rfB:Signed:=⟨⟨[98,46,121,46,120],1,0,[⟨[],2,0⟩]⟩,[]⟩
def oY:Ans:=⟨4,[rfS,rfA,rfB],[121,46,120]⟩
theorem auZ:fO [120] [99,46,121,46,120] 1 oY=([rfS,rfA],0):=by
 rw[Fz (by kernel_rfl) (by kernel_rfl) (by kernel_rfl)]
 kernel_rfl
theorem auQ:fO [121,46,120] [99,46,121,46,120] 1 oY=([],0):=by
 rw[Fz (by kernel_rfl) (by kernel_rfl) (by kernel_rfl)]
 kernel_rfl
theorem atY:fO [42] [99,46,121,46,120] 1 oY=([],1):=Cm (.inl (by kernel_rfl))
theorem Mu:nc ex0.set ⟨#[46]⟩ ⟨#[46]⟩ 1 1 0 100=true/\nc ex1.set ⟨#[120]⟩ ⟨#[46]⟩ 1 1 0 100=true/\nc ex2.set ⟨#[120]⟩ ⟨#[120]⟩ 3 1 0 100=true/\nc ex3.set ⟨#[119,46,120]⟩ ⟨#[120]⟩ 3 1 0 100=true/\nc exR ⟨#[46]⟩ ⟨#[46]⟩ 1 1 0 100=true:=
 ⟨by kernel_rfl,by kernel_rfl,by kernel_rfl,by kernel_rfl,by kernel_rfl⟩
end Np
section
open Go.RowKit Go.Shelf
attribute [local go_sem] Oper.semAt_some
structure ExOne(W:World)(db gb:Nat)(n m:Int)(z:ByteArray)(key s:Int):Prop where
 d:W.heap[db]?=some (.cells [Value.string ⟨#[]⟩,.int .i64 n,.int .i64 m].toArray 75 (0,0))
 g:W.heap[gb]?=some (.cells [Value.string z,.int .i64 key,.int .i64 1,.int .i64 0,.int .i64 100,.int .u64 s].toArray 56 (0,0))
theorem ExOne.keep{W W':World}{db gb:Nat}{n m:Int}{z:ByteArray}{key s:Int}(h:ExOne W db gb n m z key s)(hb:Below W.heap.size W W'):ExOne W' db gb n m z key s:=
 ⟨(hb.block db (eQ.1 h.d).1).trans h.d,(hb.block gb (eQ.1 h.g).1).trans h.g⟩
theorem ExOne.rsg{W:World}{db gb:Nat}{n m:Int}{z:ByteArray}{key s:Int}(h:ExOne W db gb n m z key s)(nm:ByteArray)(hn:nm.size<=140737488355328)(hz:z.size<=140737488355328)(k:Int) :
 aB W W.heap.size [.string nm,.int .i64 k,.int .i64 60,.slice (some ⟨db,0,none⟩) 1 1,.slice (some ⟨gb,0,none⟩) 1 1] ⟨⟨nm.data.toList,k,60,[⟨[],n,m⟩]⟩,[⟨z.data.toList,key,1,0,100,s⟩]⟩:=by
 have hd:=(eQ.1 h.d).1;have hg:=(eQ.1 h.g).1;refine⟨nm,_,_,rfl,hn,⟨_,1,rfl,by simp,by simp,λi x hx=>?_⟩,⟨_,1,rfl,by simp,by simp,λi x hx=>?_⟩,rfl⟩
 ·match i,hx with
  | 0,hx=>
   cases hx
   exact⟨db,0,[Value.string ⟨#[]⟩,.int .i64 n,.int .i64 m],rfl,hd,rfl,λj u hj=>by have:=ae _ h.d j u hj;simpa using this,⟨⟨#[]⟩,rfl,by decide,rfl⟩⟩
 ·match i,hx with
  | 0,hx=>
   cases hx
   exact⟨gb,0,[Value.string z,.int .i64 key,.int .i64 1,.int .i64 0,.int .i64 100,.int .u64 s],rfl,hg,rfl,λj u hj=>by have:=ae _ h.g j u hj;simpa using this,⟨z,rfl,hz,rfl⟩⟩
theorem AI(nm z:ByteArray)(hn:nm.size<=140737488355328)(hz:z.size<=140737488355328)(k n m key:Int)(w:World)(hR:bL w w.heap.size)(hs:Np.nc ⟨nm.data.toList,k,60,[⟨[],n,m⟩]⟩ nm z key 1 0 100=true) :
 Calls prog 81 #[.string nm,.int .i64 k,.int .i64 n,.int .i64 m,.string z,.int .i64 key] w λe w'=>∃ db gb,e = .returned (.agg #[.string nm,.int .i64 k,.int .i64 60,.slice (some ⟨db,0,none⟩) 1 1,.slice (some ⟨gb,0,none⟩) 1 1])/\ExOne w' db gb n m z key (Np.lu ⟨nm.data.toList,k,60,[⟨[],n,m⟩]⟩ z key 1 0 100)/\w.heap.size<=db/\w.heap.size<=gb/\db≠gb/\Below w.heap.size w w':=by
 have HR:=jq hR;have HS:=jq hs;obtain⟨sg,xk⟩:=aRZ (Np.lu ⟨nm.data.toList,k,60,[⟨[],n,m⟩]⟩ z key 1 0 100);rw[xk];have tR:=jq xk;obtain⟨X,hX⟩:=aRZ w.heap.size;have HX:=jq hX;obtain⟨w1,ah⟩:=aRZ (w.alloc (.cells #[.string ⟨#[]⟩,.int .i64 0,.int .i64 0,.slice none 0 0,.slice none 0 0] 44));obtain⟨w2,aX⟩:=aRZ (w1.alloc (.cells #[.string ⟨#[]⟩,.int .i64 n,.int .i64 m] 75));obtain⟨w3,ci⟩:=aRZ (w2.alloc (.cells #[.string nm,.int .i64 k,.int .i64 60,.slice (some ⟨X+1,0,none⟩) 1 1] 25));have z1:w1.heap.size=X+1:=by rw[<-ah,<-hX];simp
 have z2:w2.heap.size=X+1+1:=by rw[<-aX];simp[z1]
 have z3:w3.heap.size=X+1+1+1:=by rw[<-ci];simp[z2]
 have ay:Below X w w1:=by rw[<-ah,<-hX];exact aj _ _
 have ag:Below w1.heap.size w1 w2:=by rw[<-aX];exact aj _ _
 have ai:Below w2.heap.size w2 w3:=by rw[<-ci];exact aj _ _
 have am:=jq (ay.trans ((ag.aSZ).trans (ai.aSZ)));have iN:Hid (w3.heap[X]?=some (.cells [Value.string ⟨#[]⟩,.int .i64 0,.int .i64 0,.slice none 0 0,.slice none 0 0].toArray 44 (0,0))):=jq ((ai.block X (by omega)).trans ((ag.block X (by omega)).trans (by rw[<-ah,<-hX];exact heap_alloc_new _ _)));have qy:Hid (w3.heap[X+1]?=some (.cells [Value.string ⟨#[]⟩,.int .i64 n,.int .i64 m].toArray 75 (0,0))):=jq ((ai.block (X+1) (by omega)).trans (by rw[<-aX,<-z1];exact heap_alloc_new _ _));have eo:Hid (w3.heap[X+1+1]?=some (.cells [Value.string nm,.int .i64 k,.int .i64 60,.slice (some ⟨X+1,0,none⟩) 1 1].toArray 25 (0,0))):=jq (by rw[<-ci,<-z2];exact heap_alloc_new _ _);have t0:=ae _ eo.out 0 _ rfl;have t1:=ae _ eo.out 1 _ rfl;have t2:=ae _ eo.out 2 _ rfl;have t3:=ae _ eo.out 3 _ rfl;have Bp:Hid (SlR bS 3 w3 w3.heap.size (.slice (some ⟨X+1,0,none⟩) 1 1) [⟨[],n,m⟩]):=jq (by
  refine⟨_,1,rfl,by simp,by simp,λi x hx=>?_⟩
  match i,hx with
  | 0,hx=>
   cases hx
   exact⟨X+1,0,[Value.string ⟨#[]⟩,.int .i64 n,.int .i64 m],rfl,by omega,rfl,λj u hj=>by have:=ae _ qy.out j u hj;simpa using this,⟨⟨#[]⟩,rfl,by decide,rfl⟩⟩)
 have gN:=jq ((hR.keep (by rw[hX];exact am.out)).more (show w.heap.size<=w3.heap.size by omega));have yF:Hid (w3.heap.size=X+1+1+1):=jq z3;clear ay ag ai hR hs xk;go_enter func81,ntmps81;go_wp2_with fail;clear ah aX;go_wp2_with fail;clear ci;go_wp2_with fail;refine (Qn nm hn k 60 _ [⟨[],n,m⟩] z hz key 1 0 100 w3 gN.out Bp.out HS.out).mono ?_;rintro e w4 ⟨rfl,av⟩;rw[tR.out];obtain⟨w5,bc⟩:=aRZ (w4.alloc (.cells #[.string z,.int .i64 key,.int .i64 1,.int .i64 0,.int .i64 100,.int .u64 sg] 56));obtain⟨w6,cS⟩:=aRZ (w5.alloc (.cells #[.string z,.int .i64 key,.int .i64 1,.int .i64 0,.int .i64 100,.int .u64 sg] 56));have ve:X+1+1+1<=w4.heap.size:=by have:=av.size;have:=yF.out;omega
 have aI:Below w4.heap.size w4 w5:=by rw[<-bc];exact aj _ _
 have bh:Below w5.heap.size w5 w6:=by rw[<-cS];exact aj _ _
 have z5:w4.heap.size<w5.heap.size:=by rw[<-bc];simp
 have z6:w5.heap.size<w6.heap.size:=by rw[<-cS];simp
 have CI:Below w3.heap.size w3 w6:=av.trans ((aI.trans (bh.aSZ)).mono (by have:=av.size;omega));have Rr:=jq CI;have BN:=jq ((aI.block (X+1+1) (by omega)).trans ((av.block (X+1+1) (by have:=yF.out;omega)).trans eo.out));have u0:=ae _ BN.out 0 _ rfl;have u1:=ae _ BN.out 1 _ rfl;have u2:=ae _ BN.out 2 _ rfl;have u3:=ae _ BN.out 3 _ rfl;have p5:=bD (r:=[.string z,.int .i64 key,.int .i64 1,.int .i64 0,.int .i64 100,.int .u64 sg]) rfl bc;have v0:=p5 0 _ rfl;have v1:=p5 1 _ rfl;have v2:=p5 2 _ rfl;have v3:=p5 3 _ rfl;have v4:=p5 4 _ rfl;have v5:=p5 5 _ rfl;have jh:=jq ((CI.block X (by have:=yF.out;omega)).trans iN.out);have y0:=ae _ jh.out 0 _ rfl;have y1:=ae _ jh.out 1 _ rfl;have y2:=ae _ jh.out 2 _ rfl;have y3:=ae _ jh.out 3 _ rfl;have y4:=ae _ jh.out 4 _ rfl;have g0:w6.frozen? ⟨X,0,none⟩=false:=by simp[World.frozen?,jh.out]
 have g1:w6.frozen? ⟨X,1,none⟩=false:=by simp[World.frozen?,jh.out]
 have g2:w6.frozen? ⟨X,2,none⟩=false:=by simp[World.frozen?,jh.out]
 have g3:w6.frozen? ⟨X,3,none⟩=false:=by simp[World.frozen?,jh.out]
 have g4:w6.frozen? ⟨X,4,none⟩=false:=by simp[World.frozen?,jh.out]
 have JS:Hid (w6.heap[w5.heap.size]?=some (.cells [Value.string z,.int .i64 key,.int .i64 1,.int .i64 0,.int .i64 100,.int .u64 sg].toArray 56 (0,0))):=jq (by rw[<-cS];have h:=tR.out;subst h;exact heap_alloc_new _ _);have qz:=jq ((CI.block (X+1) (by have:=yF.out;omega)).trans qy.out);obtain⟨GB,Yd⟩:=aRZ w5.heap.size;rw[Yd] at JS;have hX5:X+1+1+1<=GB:=by omega
 clear av aI bh CI p5 t0 t1 t2 t3 z1 z2 z3;go_wp2_with fail;clear bc;go_wp2_with fail;obtain⟨W,hW⟩:=aRZ (((((w6.setCell ⟨X,0,none⟩ (.string nm)).setCell ⟨X,1,none⟩ (.int .i64 k)).setCell ⟨X,2,none⟩ (.int .i64 60)).setCell ⟨X,3,none⟩ (.slice (some ⟨X+1,0,none⟩) 1 1)).setCell ⟨X,4,none⟩ (.slice (some ⟨GB,0,none⟩) 1 1));rw[hW];have kR:W.heap[X]?=some (.cells [Value.string nm,.int .i64 k,.int .i64 60,.slice (some ⟨X+1,0,none⟩) 1 1,.slice (some ⟨GB,0,none⟩) 1 1].toArray 44 (0,0)):=by
  rw[<-hW];exact MG _ _ _ _ _ _ _ _ _ _ jh.out
 have iA:Below X w6 W:=by
  rw[<-hW];exact (((((vQ X w6).setCell (p:=⟨X,0,none⟩) (bQ _) _).setCell (p:=⟨X,1,none⟩) (bQ _) _).setCell (p:=⟨X,2,none⟩) (bQ _) _).setCell (p:=⟨X,3,none⟩) (bQ _) _).setCell (p:=⟨X,4,none⟩) (bQ _) _
 have zP:∀ i,i≠X->W.heap[i]?=w6.heap[i]?:=λi hi=>by
  rw[<-hW];simp[World.setCell,Array.getElem?_modify,Ne.symm hi]
 have c0:=ae _ kR 0 _ rfl;have c1:=ae _ kR 1 _ rfl;have c2:=ae _ kR 2 _ rfl;have c3:=ae _ kR 3 _ rfl;have c4:=ae _ kR 4 _ rfl;refine bodyPost_ret (v:=.agg #[.string nm,.int .i64 k,.int .i64 60,.slice (some ⟨X+1,0,none⟩) 1 1,.slice (some ⟨GB,0,none⟩) 1 1]) (by simp[results,results81,go_sem,c0,c1,c2,c3,c4]) rfl ?_;refine⟨X+1,GB,rfl,⟨(zP _ (by omega)).trans qz.out,(zP _ (by omega)).trans JS.out⟩,by have:=HX.out;omega,by have:=HX.out;omega,by omega,?_⟩;rw[HX.out];exact (am.out.trans (Rr.out.mono (by have:=yF.out;omega))).trans iA
structure ExL(W:World)(L d0 g0 d1 g1 d2 g2 d3 g3:Nat)(s:Int):Prop where
 l:W.heap[L]?=some (.cells [Value.string ⟨#[46]⟩,.int .i64 7,.int .i64 60,.slice (some ⟨d0,0,none⟩) 1 1,.slice (some ⟨g0,0,none⟩) 1 1,.string ⟨#[120]⟩,.int .i64 6,.int .i64 60,.slice (some ⟨d1,0,none⟩) 1 1,.slice (some ⟨g1,0,none⟩) 1 1,.string ⟨#[120]⟩,.int .i64 7,.int .i64 60,.slice (some ⟨d2,0,none⟩) 1 1,.slice (some ⟨g2,0,none⟩) 1 1,.string ⟨#[119,46,120]⟩,.int .i64 1,.int .i64 60,.slice (some ⟨d3,0,none⟩) 1 1,.slice (some ⟨g3,0,none⟩) 1 1].toArray 44 (0,0))
 o0:ExOne W d0 g0 1 1 ⟨#[46]⟩ 1 (Np.lu Np.ex0.set ⟨#[46]⟩ 1 1 0 100)
 o1:ExOne W d1 g1 3 1 ⟨#[46]⟩ 1 (Np.lu Np.ex1.set ⟨#[46]⟩ 1 1 0 100)
 o2:ExOne W d2 g2 3 1 ⟨#[120]⟩ 3 (Np.lu Np.ex2.set ⟨#[120]⟩ 3 1 0 100)
 o3:ExOne W d3 g3 7 0 ⟨#[120]⟩ 3 s
 lt:d0<g3/\g0<g3/\d1<g3/\g1<g3/\d2<g3/\g2<g3/\d3≠g3/\g3<L
section
variable {W W':World} {L d0 g0 d1 g1 d2 g2 d3 g3:Nat} {s:Int}
theorem ExL.keep(h:ExL W L d0 g0 d1 g1 d2 g2 d3 g3 s)(hb:Below W.heap.size W W'):ExL W' L d0 g0 d1 g1 d2 g2 d3 g3 s:=
 ⟨(hb.block L (eQ.1 h.l).1).trans h.l,h.o0.keep hb,h.o1.keep hb,h.o2.keep hb,h.o3.keep hb,h.lt⟩
theorem ExOne.other{db gb g:Nat}{n m:Int}{z:ByteArray}{key s:Int}(h:ExOne W db gb n m z key s)(h1:db≠g)(h2:gb≠g)(q:Nat)(v:Value):ExOne (W.setCell ⟨g,q,none⟩ v) db gb n m z key s:=
 ⟨(wQ _ _ _ _ (λe=>h1 e)).trans h.d,(wQ _ _ _ _ (λe=>h2 e)).trans h.g⟩
theorem ExL.bump(h:ExL W L d0 g0 d1 g1 d2 g2 d3 g3 s)(s':Int):ExL (W.setCell ⟨g3,5,none⟩ (.int .u64 s')) L d0 g0 d1 g1 d2 g2 d3 g3 s':=by
 obtain⟨a0,a1,a2,a3,a4,a5,a6,a7⟩:=h.lt;refine⟨(wQ _ _ _ _ (λe=>by have e':L=g3:=e;omega)).trans h.l,h.o0.other (by omega) (by omega) _ _,h.o1.other (by omega) (by omega) _ _,h.o2.other (by omega) (by omega) _ _,⟨(wQ _ _ _ _ (λe=>a6 e)).trans h.o3.d,?_⟩,h.lt⟩;simp[World.setCell,Array.getElem?_modify,h.o3.g]
theorem ExL.at0(h:ExL W L d0 g0 d1 g1 d2 g2 d3 g3 s):eB W L 0 [.string ⟨#[46]⟩,.int .i64 7,.int .i64 60,.slice (some ⟨d0,0,none⟩) 1 1,.slice (some ⟨g0,0,none⟩) 1 1]/\aB W W.heap.size [.string ⟨#[46]⟩,.int .i64 7,.int .i64 60,.slice (some ⟨d0,0,none⟩) 1 1,.slice (some ⟨g0,0,none⟩) 1 1] Np.ex0:=
 ⟨λj u hj=>by have:=ae _ h.l (0+j) u (by match j,hj with | 0,hj=>exact hj | 1,hj=>exact hj | 2,hj=>exact hj | 3,hj=>exact hj | 4,hj=>exact hj);simpa using this,h.o0.rsg ⟨#[46]⟩ (by decide) (by decide) 7⟩
theorem ExL.at1(h:ExL W L d0 g0 d1 g1 d2 g2 d3 g3 s):eB W L 5 [.string ⟨#[120]⟩,.int .i64 6,.int .i64 60,.slice (some ⟨d1,0,none⟩) 1 1,.slice (some ⟨g1,0,none⟩) 1 1]/\aB W W.heap.size [.string ⟨#[120]⟩,.int .i64 6,.int .i64 60,.slice (some ⟨d1,0,none⟩) 1 1,.slice (some ⟨g1,0,none⟩) 1 1] Np.ex1:=
 ⟨λj u hj=>ae _ h.l (5+j) u (by match j,hj with | 0,hj=>exact hj | 1,hj=>exact hj | 2,hj=>exact hj | 3,hj=>exact hj | 4,hj=>exact hj),h.o1.rsg ⟨#[120]⟩ (by decide) (by decide) 6⟩
theorem ExL.at2(h:ExL W L d0 g0 d1 g1 d2 g2 d3 g3 s):eB W L 10 [.string ⟨#[120]⟩,.int .i64 7,.int .i64 60,.slice (some ⟨d2,0,none⟩) 1 1,.slice (some ⟨g2,0,none⟩) 1 1]/\aB W W.heap.size [.string ⟨#[120]⟩,.int .i64 7,.int .i64 60,.slice (some ⟨d2,0,none⟩) 1 1,.slice (some ⟨g2,0,none⟩) 1 1] Np.ex2:=
 ⟨λj u hj=>ae _ h.l (10+j) u (by match j,hj with | 0,hj=>exact hj | 1,hj=>exact hj | 2,hj=>exact hj | 3,hj=>exact hj | 4,hj=>exact hj),h.o2.rsg ⟨#[120]⟩ (by decide) (by decide) 7⟩
theorem ExL.at3(h:ExL W L d0 g0 d1 g1 d2 g2 d3 g3 s):eB W L 15 [.string ⟨#[119,46,120]⟩,.int .i64 1,.int .i64 60,.slice (some ⟨d3,0,none⟩) 1 1,.slice (some ⟨g3,0,none⟩) 1 1]/\aB W W.heap.size [.string ⟨#[119,46,120]⟩,.int .i64 1,.int .i64 60,.slice (some ⟨d3,0,none⟩) 1 1,.slice (some ⟨g3,0,none⟩) 1 1] (Np.exB s):=
 ⟨λj u hj=>ae _ h.l (15+j) u (by match j,hj with | 0,hj=>exact hj | 1,hj=>exact hj | 2,hj=>exact hj | 3,hj=>exact hj | 4,hj=>exact hj),h.o3.rsg ⟨#[119,46,120]⟩ (by decide) (by decide) 1⟩
theorem ExL.all(h:ExL W L d0 g0 d1 g1 d2 g2 d3 g3 s):SlR aB 5 W W.heap.size (.slice (some ⟨L,0,none⟩) 4 4) [Np.ex0,Np.ex1,Np.ex2,Np.exB s]:=by
 have hl:=(eQ.1 h.l).1;refine⟨_,4,rfl,by simp,by simp,λi x hx=>?_⟩
 match i,hx with
 | 0,hx=>cases hx;exact⟨L,0,_,rfl,hl,rfl,by have:=h.at0.1;simpa using this,h.at0.2⟩
 | 1,hx=>cases hx;exact⟨L,0,_,rfl,hl,rfl,by have:=h.at1.1;simpa using this,h.at1.2⟩
 | 2,hx=>cases hx;exact⟨L,0,_,rfl,hl,rfl,by have:=h.at2.1;simpa using this,h.at2.2⟩
 | 3,hx=>cases hx;exact⟨L,0,_,rfl,hl,rfl,by have:=h.at3.1;simpa using this,h.at3.2⟩
theorem ExL.first(h:ExL W L d0 g0 d1 g1 d2 g2 d3 g3 s):SlR aB 5 W W.heap.size (.slice (some ⟨L,0,none⟩) 3 4) [Np.ex0,Np.ex1,Np.ex2]:=by
 have hl:=(eQ.1 h.l).1;refine⟨_,4,rfl,by simp,by simp,λi x hx=>?_⟩
 match i,hx with
 | 0,hx=>cases hx;exact⟨L,0,_,rfl,hl,rfl,by have:=h.at0.1;simpa using this,h.at0.2⟩
 | 1,hx=>cases hx;exact⟨L,0,_,rfl,hl,rfl,by have:=h.at1.1;simpa using this,h.at1.2⟩
 | 2,hx=>cases hx;exact⟨L,0,_,rfl,hl,rfl,by have:=h.at2.1;simpa using this,h.at2.2⟩
theorem ExL.last(h:ExL W L d0 g0 d1 g1 d2 g2 d3 g3 s):SlR aB 5 W W.heap.size (.slice (some ⟨L,15,none⟩) 1 1) [Np.exB s]:=by
 have hl:=(eQ.1 h.l).1;refine⟨_,1,rfl,by simp,by simp,λi x hx=>?_⟩
 match i,hx with
 | 0,hx=>cases hx;exact⟨L,15,_,rfl,hl,rfl,by have:=h.at3.1;simpa using this,h.at3.2⟩
end
theorem auJ(w:World)(hR:bL w w.heap.size):Calls prog 82 #[] w λe w'=>∃ db,e = .returned (.agg #[.string ⟨#[46]⟩,.int .i64 6,.int .i64 60,.slice (some ⟨db,0,none⟩) 1 1])/\SlR bS 3 w' w'.heap.size (.slice (some ⟨db,0,none⟩) 1 1) Np.exR.data/\Below w.heap.size w w':=by
 have HR:=jq hR;obtain⟨X,hX⟩:=aRZ w.heap.size;have HX:=jq hX;obtain⟨w1,ah⟩:=aRZ (w.alloc (.cells #[.string ⟨#[]⟩,.int .i64 0,.int .i64 0,.slice none 0 0] 25));have z1:w1.heap.size=X+1:=by rw[<-ah,<-hX];simp
 have ay:Below X w w1:=by rw[<-ah,<-hX];exact aj _ _
 have iN:Hid (w1.heap[X]?=some (.cells [Value.string ⟨#[]⟩,.int .i64 0,.int .i64 0,.slice none 0 0].toArray 25 (0,0))):=jq (by rw[<-ah,<-hX];exact heap_alloc_new _ _);have aH:=jq ay;have dK:=jq ((hR.keep (by rw[hX];exact ay)).more (show w.heap.size<=w1.heap.size by omega));have qJ:=jq z1;clear ay hR;go_enter func82,ntmps82;go_wp2_with fail;clear ah;refine (AI ⟨#[46]⟩ ⟨#[46]⟩ (by decide) (by decide) 6 1 1 1 w1 dK.out Np.Mu.2.2.2.2).mono ?_;rintro e w2 ⟨db,gb,rfl,ho,hd,hg,hne,ag⟩;have HO:=jq ho;have cr:X+1<=w2.heap.size:=by have:=ag.size;have:=qJ.out;omega
 have ax:=jq (aH.out.trans (ag.mono (by have:=qJ.out;omega)));have d8:=jq ((ag.block X (by have:=qJ.out;omega)).trans iN.out);have YW:db≠X:=by have:=qJ.out;omega
 have Y4:gb≠X:=by have:=qJ.out;omega
 have hfd:∀ w:World,(Instr.field 44 (.agg #[.string ⟨#[46]⟩,.int .i64 6,.int .i64 60,.slice (some ⟨db,0,none⟩) 1 1,.slice (some ⟨gb,0,none⟩) 1 1]) 0).run prog w = .ok (.agg #[.string ⟨#[46]⟩,.int .i64 6,.int .i64 60,.slice (some ⟨db,0,none⟩) 1 1]) w:=λw=>by kernel_rfl
 have y0:=ae _ d8.out 0 _ rfl;have f0:w2.frozen? ⟨X,0,none⟩=false:=by simp[World.frozen?,d8.out]
 have y1:=ae _ d8.out 1 _ rfl;have f1:w2.frozen? ⟨X,1,none⟩=false:=by simp[World.frozen?,d8.out]
 have y2:=ae _ d8.out 2 _ rfl;have f2:w2.frozen? ⟨X,2,none⟩=false:=by simp[World.frozen?,d8.out]
 have y3:=ae _ d8.out 3 _ rfl;have f3:w2.frozen? ⟨X,3,none⟩=false:=by simp[World.frozen?,d8.out]
 clear ag z1 hd hg ho;go_wp2_with fail;obtain⟨W,hW⟩:=aRZ ((((w2.setCell ⟨X,0,none⟩ (.string ⟨#[46]⟩)).setCell ⟨X,1,none⟩ (.int .i64 6)).setCell ⟨X,2,none⟩ (.int .i64 60)).setCell ⟨X,3,none⟩ (.slice (some ⟨db,0,none⟩) 1 1));rw[hW];have kR:W.heap[X]?=some (.cells [Value.string ⟨#[46]⟩,.int .i64 6,.int .i64 60,.slice (some ⟨db,0,none⟩) 1 1].toArray 25 (0,0)):=by
  rw[<-hW];simp[World.setCell,Array.getElem?_modify,d8.out]
 have iA:Below X w2 W:=by
  rw[<-hW];exact ((((vQ X w2).setCell (p:=⟨X,0,none⟩) (bQ _) _).setCell (p:=⟨X,1,none⟩) (bQ _) _).setCell (p:=⟨X,2,none⟩) (bQ _) _).setCell (p:=⟨X,3,none⟩) (bQ _) _
 have zP:∀ i,i≠X->W.heap[i]?=w2.heap[i]?:=λi hi=>by
  rw[<-hW];simp[World.setCell,Array.getElem?_modify,Ne.symm hi]
 have c0:=ae _ kR 0 _ rfl;have c1:=ae _ kR 1 _ rfl;have c2:=ae _ kR 2 _ rfl;have c3:=ae _ kR 3 _ rfl;refine bodyPost_ret (v:=.agg #[.string ⟨#[46]⟩,.int .i64 6,.int .i64 60,.slice (some ⟨db,0,none⟩) 1 1]) (by simp[results,results82,go_sem,c0,c1,c2,c3]) rfl ?_;have ho':ExOne W db gb 1 1 ⟨#[46]⟩ 1 _:=⟨(zP _ YW).trans HO.out.d,(zP _ Y4).trans HO.out.g⟩;obtain⟨_,_,_,_,_,h3,_,h5⟩:=ho'.rsg ⟨#[46]⟩ (by decide) (by decide) 6;simp only[List.cons.injEq,and_true] at h5;obtain⟨_,_,_,rfl,_⟩:=h5;exact⟨db,rfl,h3,by rw[HX.out];exact ax.out.trans iA⟩
theorem Mv(w:World)(hR:bL w w.heap.size):Calls prog 30 #[] w λe w'=>∃ L d0 g0 d1 g1 d2 g2 d3 g3,e = .returned (.slice (some ⟨L,0,none⟩) 4 4)/\ExL w' L d0 g0 d1 g1 d2 g2 d3 g3 (Np.lu Np.ex3.set ⟨#[120]⟩ 3 1 0 100)/\w.heap.size<=g3/\Below w.heap.size w w':=by
 have HR:=jq hR;obtain⟨q1,q2,q3,q4,_⟩:=Np.Mu;clear hR;go_enter func30,ntmps30;go_wp2_with fail;refine (AI ⟨#[46]⟩ ⟨#[46]⟩ (by decide) (by decide) 7 1 1 1 w HR.out q1).mono ?_;rintro e w1 ⟨d0,g0,rfl,Dc,Gx,hg0,nD,ay⟩;have H0:=jq Dc;have aH:=jq ay;have iN:=jq ((HR.out.keep ay).more ay.size);have l0:d0<w1.heap.size:=(eQ.1 Dc.d).1;have l0':g0<w1.heap.size:=(eQ.1 Dc.g).1;clear Dc ay;go_wp2_with fail;refine (AI ⟨#[120]⟩ ⟨#[46]⟩ (by decide) (by decide) 6 3 1 1 w1 iN.out q2).mono ?_;rintro e w2 ⟨d1,g1,rfl,Dd,fw,cR,wZ,ag⟩;have H1:=jq (And.intro (H0.out.keep ag) Dd);have ax:=jq (aH.out.trans (ag.mono aH.out.size));have d8:=jq ((iN.out.keep ag).more ag.size);have l1:d1<w2.heap.size:=(eQ.1 Dd.d).1;have l1':g1<w2.heap.size:=(eQ.1 Dd.g).1;have z2:=ag.size;clear Dd ag;go_wp2_with fail;refine (AI ⟨#[120]⟩ ⟨#[120]⟩ (by decide) (by decide) 7 3 1 3 w2 d8.out q3).mono ?_;rintro e w3 ⟨d2,g2,rfl,oG,fS,ew,fG,ai⟩;have H2:=jq (And.intro (H1.out.1.keep ai) (And.intro (H1.out.2.keep ai) oG));have am:=jq (ax.out.trans (ai.mono ax.out.size));have gN:=jq ((d8.out.keep ai).more ai.size);have l2:d2<w3.heap.size:=(eQ.1 oG.d).1;have l2':g2<w3.heap.size:=(eQ.1 oG.g).1;have z3:=ai.size;clear oG ai;go_wp2_with fail;refine (AI ⟨#[119,46,120]⟩ ⟨#[120]⟩ (by decide) (by decide) 1 7 0 3 w3 gN.out q4).mono ?_;rintro e w4 ⟨d3,g3,rfl,kY,hd3,gp,zV,av⟩;have H3:=jq (And.intro (H2.out.1.keep av) (And.intro (H2.out.2.1.keep av) (And.intro (H2.out.2.2.keep av) kY)));have aF:=jq (am.out.trans (av.mono am.out.size));have l3':g3<w4.heap.size:=(eQ.1 kY.g).1;clear kY av;obtain⟨w5,bc⟩:=aRZ (w4.alloc (.cells #[.string ⟨#[46]⟩,.int .i64 7,.int .i64 60,.slice (some ⟨d0,0,none⟩) 1 1,.slice (some ⟨g0,0,none⟩) 1 1,.string ⟨#[120]⟩,.int .i64 6,.int .i64 60,.slice (some ⟨d1,0,none⟩) 1 1,.slice (some ⟨g1,0,none⟩) 1 1,.string ⟨#[120]⟩,.int .i64 7,.int .i64 60,.slice (some ⟨d2,0,none⟩) 1 1,.slice (some ⟨g2,0,none⟩) 1 1,.string ⟨#[119,46,120]⟩,.int .i64 1,.int .i64 60,.slice (some ⟨d3,0,none⟩) 1 1,.slice (some ⟨g3,0,none⟩) 1 1] 44));have aI:Below w4.heap.size w4 w5:=by rw[<-bc];exact aj _ _
 have SR:Hid (w5.heap[w4.heap.size]?=some (.cells [Value.string ⟨#[46]⟩,.int .i64 7,.int .i64 60,.slice (some ⟨d0,0,none⟩) 1 1,.slice (some ⟨g0,0,none⟩) 1 1,.string ⟨#[120]⟩,.int .i64 6,.int .i64 60,.slice (some ⟨d1,0,none⟩) 1 1,.slice (some ⟨g1,0,none⟩) 1 1,.string ⟨#[120]⟩,.int .i64 7,.int .i64 60,.slice (some ⟨d2,0,none⟩) 1 1,.slice (some ⟨g2,0,none⟩) 1 1,.string ⟨#[119,46,120]⟩,.int .i64 1,.int .i64 60,.slice (some ⟨d3,0,none⟩) 1 1,.slice (some ⟨g3,0,none⟩) 1 1].toArray 44 (0,0))):=jq (by rw[<-bc];exact heap_alloc_new _ _);have aK:=jq aI;clear aI;go_wp2_with fail;go_ret;exact⟨w4.heap.size,d0,g0,d1,g1,d2,g2,d3,g3,rfl,⟨SR.out,H3.out.1.keep aK.out,H3.out.2.1.keep aK.out,H3.out.2.2.1.keep aK.out,H3.out.2.2.2.keep aK.out,by omega,by omega,by omega,by omega,by omega,by omega,zV,l3'⟩,by have:=am.out.size;omega,aF.out.trans (aK.out.mono aF.out.size)⟩
theorem eqQ(a b:ByteArray)(t u:Int)(w:World):(binOp .eql 27 (.agg #[.string a,.int .i64 t]) (.agg #[.string b,.int .i64 u])).run prog w = .ok (.bool (a.toList == b.toList&&t == u)) w:=by
 have u3:=underlying3;have a3:=isAgg3;have z3:=sizeOf3;have u9:=underlying9;have a9:=isAgg9;have z9:=sizeOf9;have hS:prog.underlying 27=some (.struct (prog.fieldsOf 27)):=by kernel_rfl
 have hp:prog.stoodInHeld 27=false:=by kernel_rfl
 rw[run_eql_struct,show (10000:Nat)=9999+1 from rfl,run_equalIn_agg w 9999 27 _ _ hS hp];simp only[Program.fieldsOf,underlying27];go_simp;by_cases h0:a.toList=b.toList<;>by_cases h1:t=u<;>simp[h0,h1]
def iT(W:World)(B:Nat)(e:List Value)(x:Np.Verd):Prop:=∃ (q:ByteArray) (A:Option Addr) (n c:Nat),e = [.int .i64 x.kind,.string q,.int .i64 x.q.2,.slice A n c]/\q.data.toList=x.q.1/\q.size<=140737488355328/\SlR aB 5 W B (.slice A n c) x.sets
theorem axX:eh iT:=λ_ _ _ _ _ ⟨q,A,n,c,h1,h2,h3,h4⟩ hb=>⟨q,A,n,c,h1,h2,h3,h4.keep az hb⟩
theorem axY:eI iT:=λ_ _ _ _ _ ⟨q,A,n,c,h1,h2,h3,h4⟩ hb=>⟨q,A,n,c,h1,h2,h3,h4.more bf hb⟩
theorem iT.later{w w':World}{e:List Value}{x:Np.Verd}(h:iT w w.heap.size e x)(hb:Below w.heap.size w w'):iT w' w'.heap.size e x:=axY _ _ _ _ _ (axX _ _ _ _ _ h hb) hb.size
theorem vi(kv:Value)(known:List Np.Signed)(at':Int)(x:Np.Verd)(hx:Np.eY known Np.exR [119,46,120] 1 at' 5=(x,0))(w:World)(hR:bL w w.heap.size)(hk:SlR aB 5 w w.heap.size kv known)(mu:∀ y∈known,y.set.data.length<=100000/\y.sigs.length<=100000) :
 Calls prog 31 #[kv,.int .i64 at'] w λe w'=>∃ e',e = .returned (.agg e'.toArray)/\iT w' w'.heap.size e' x/\Below w.heap.size w w':=by
 have HK:=jq hk;have Fa:=jq hx;obtain⟨A,N,C,rfl,_,_,_⟩:=aM hk;obtain⟨X,hX⟩:=aRZ w.heap.size;have HX:=jq hX;obtain⟨w1,ah⟩:=aRZ (w.alloc (.cells #[.int .i64 0,.string ⟨#[]⟩,.int .i64 0,.slice none 0 0] 33));have z1:w1.heap.size=X+1:=by rw[<-ah,<-hX];simp
 have ay:Below X w w1:=by rw[<-ah,<-hX];exact aj _ _
 have iN:Hid (w1.heap[X]?=some (.cells [Value.int .i64 0,.string ⟨#[]⟩,.int .i64 0,.slice none 0 0].toArray 33 (0,0))):=jq (by rw[<-ah,<-hX];exact heap_alloc_new _ _);have aH:=jq ay;have dK:=jq ((hR.keep (by rw[hX];exact ay)).more (show w.heap.size<=w1.heap.size by omega));have qJ:=jq z1;have yf:Hid (SlR aB 5 w X (.slice A N C) known):=jq (by rw[<-hX];exact hk);have pz:=jq mu;clear ay hR hk mu hx;go_enter func31,ntmps31;go_wp2_with fail;clear ah;go_wp2_with fail;refine (auJ w1 dK.out).mono ?_;rintro e w2 ⟨db,rfl,hdr,ag⟩;have cr:X+1<=w2.heap.size:=by have:=ag.size;have:=qJ.out;omega
 have ax:=jq (aH.out.trans (ag.mono (by have:=qJ.out;omega)));have d8:=jq ((ag.block X (by have:=qJ.out;omega)).trans iN.out);have TN:=jq ((dK.out.keep ag).more ag.size);have Ew:=jq hdr;clear ag z1 hdr;go_wp2_with fail;refine (Ay (.slice A N C) known ⟨#[46]⟩ ⟨#[119,46,120]⟩ Np.exR rfl (by decide) (.slice (some ⟨db,0,none⟩) 1 1) 1 at' 5 (by decide) w2 TN.out ((yf.out.keep az ax.out).more bf (by omega)) pz.out Ew.out).mono ?_;rintro e w3 ⟨qn,vA,vn,vc,rfl,hq,cA,di,ai⟩;rw[show ((⟨#[119,46,120]⟩:ByteArray)).data.toList = [119,46,120] from rfl,Fa.out] at hq di |-;obtain⟨k,hk⟩:=aRZ x.kind;obtain⟨q2,fH⟩:=aRZ x.q.2;dsimp only;rw[hk,fH];have BS:=jq (And.intro hk (And.intro fH (And.intro hq cA)));have nJ:X+1<=w3.heap.size:=by have:=ai.size;omega
 have am:=aRQ ax ai;have gN:=jq ((ai.block X (by omega)).trans d8.out);have eH:=jq di;clear ai hq di hk fH;obtain⟨w4,dD⟩:=aRZ (w3.alloc (.cells #[.int .i64 k,.string qn,.int .i64 q2,.slice vA vn vc] 33));have av:Below w3.heap.size w3 w4:=by rw[<-dD];exact aj _ _
 have p4:=bD (r:=[.int .i64 k,.string qn,.int .i64 q2,.slice vA vn vc]) rfl dD;have v0:=p4 0 _ rfl;have v1:=p4 1 _ rfl;have v2:=p4 2 _ rfl;have v3:=p4 3 _ rfl;have gi:=jq ((av.block X (by omega)).trans gN.out);have aF:=jq av;have y0:=ae _ gi.out 0 _ rfl;have f0:w4.frozen? ⟨X,0,none⟩=false:=by simp[World.frozen?,gi.out]
 have y1:=ae _ gi.out 1 _ rfl;have f1:w4.frozen? ⟨X,1,none⟩=false:=by simp[World.frozen?,gi.out]
 have y2:=ae _ gi.out 2 _ rfl;have f2:w4.frozen? ⟨X,2,none⟩=false:=by simp[World.frozen?,gi.out]
 have y3:=ae _ gi.out 3 _ rfl;have f3:w4.frozen? ⟨X,3,none⟩=false:=by simp[World.frozen?,gi.out]
 clear av p4;go_wp2_with fail;clear dD;go_wp2_with fail;obtain⟨W,hW⟩:=aRZ ((((w4.setCell ⟨X,0,none⟩ (.int .i64 k)).setCell ⟨X,1,none⟩ (.string qn)).setCell ⟨X,2,none⟩ (.int .i64 q2)).setCell ⟨X,3,none⟩ (.slice vA vn vc));rw[hW];have kR:W.heap[X]?=some (.cells [Value.int .i64 k,.string qn,.int .i64 q2,.slice vA vn vc].toArray 33 (0,0)):=by
  rw[<-hW];simp[World.setCell,Array.getElem?_modify,gi.out]
 have iA:Below X w4 W:=by
  rw[<-hW];exact ((((vQ X w4).setCell (p:=⟨X,0,none⟩) (bQ _) _).setCell (p:=⟨X,1,none⟩) (bQ _) _).setCell (p:=⟨X,2,none⟩) (bQ _) _).setCell (p:=⟨X,3,none⟩) (bQ _) _
 have c0:=ae _ kR 0 _ rfl;have c1:=ae _ kR 1 _ rfl;have c2:=ae _ kR 2 _ rfl;have c3:=ae _ kR 3 _ rfl;refine bodyPost_ret (v:=.agg #[.int .i64 k,.string qn,.int .i64 q2,.slice vA vn vc]) (by simp[results,results31,go_sem,c0,c1,c2,c3]) rfl ?_;refine⟨[.int .i64 k,.string qn,.int .i64 q2,.slice vA vn vc],rfl,⟨qn,vA,vn,vc,by rw[BS.out.1,BS.out.2.1],BS.out.2.2.1,BS.out.2.2.2,?_⟩,by first | exact (am.out.trans (aF.out.aSZ)).trans iA | (rw[HX.out];exact (am.out.trans (aF.out.aSZ)).trans iA)⟩;have ht:Turned X w4 W:=⟨by rw[<-hW];rfl,by rw[<-hW];rfl,by rw[<-hW];rfl,by rw[<-hW];simp[World.setCell],λi hi=>by rw[<-hW];simp[World.setCell,Array.getElem?_modify,Ne.symm hi]⟩;exact (show jI aB 5 0 w2.heap.size w4 (.slice vA vn vc) x.sets from λM hM=>eH.out.later az bf aF.out (λk hk=>.inl (hM k hk).2)).past az kj bf (by omega) ht
end
section
open Go.RowKit Go.Shelf
attribute [local go_sem] Oper.semAt_some
theorem Np.Cl:∀ y∈[Np.ex0,Np.ex1,Np.ex2,Np.ex3],y.set.data.length<=100000/\y.sigs.length<=100000:=λy hy=>by
 simp only[List.mem_cons,Qh,or_false] at hy;rcases hy with rfl | rfl | rfl | rfl<;>exact⟨show 1<=100000 by decide,show 1<=100000 by decide⟩
theorem Np.Fw:∀ y∈[Np.ex0,Np.ex1,Np.ex3],y.set.data.length<=100000/\y.sigs.length<=100000:=λy hy=>by
 simp only[List.mem_cons,Qh,or_false] at hy;rcases hy with rfl | rfl | rfl<;>exact⟨show 1<=100000 by decide,show 1<=100000 by decide⟩
theorem Np.exfn:∀ y∈[Np.ex0,Np.ex1,Np.ex2],y.set.data.length<=100000/\y.sigs.length<=100000:=λy hy=>by
 simp only[List.mem_cons,Qh,or_false] at hy;rcases hy with rfl | rfl | rfl<;>exact⟨show 1<=100000 by decide,show 1<=100000 by decide⟩
theorem Np.exfb(s:Int):∀ y∈[Np.ex0,Np.ex1,Np.ex2,Np.exB s],y.set.data.length<=100000/\y.sigs.length<=100000:=λy hy=>by
 simp only[List.mem_cons,Qh,or_false] at hy;rcases hy with rfl | rfl | rfl | rfl<;>exact⟨show 1<=100000 by decide,show 1<=100000 by decide⟩
theorem Np.Ck:Np.exB (Np.lu Np.ex3.set ⟨#[120]⟩ 3 1 0 100)=Np.ex3:=rfl
theorem ExL.three{W:World}{L d0 g0 d1 g1 d2 g2 d3 g3 K:Nat}(h:ExL W L d0 g0 d1 g1 d2 g2 d3 g3 (Np.lu Np.ex3.set ⟨#[120]⟩ 3 1 0 100))(hk:W.heap[K]?=some (.cells [Value.string ⟨#[46]⟩,.int .i64 7,.int .i64 60,.slice (some ⟨d0,0,none⟩) 1 1,.slice (some ⟨g0,0,none⟩) 1 1,.string ⟨#[120]⟩,.int .i64 6,.int .i64 60,.slice (some ⟨d1,0,none⟩) 1 1,.slice (some ⟨g1,0,none⟩) 1 1,.string ⟨#[119,46,120]⟩,.int .i64 1,.int .i64 60,.slice (some ⟨d3,0,none⟩) 1 1,.slice (some ⟨g3,0,none⟩) 1 1].toArray 44 (0,0))):SlR aB 5 W W.heap.size (.slice (some ⟨K,0,none⟩) 3 3) [Np.ex0,Np.ex1,Np.ex3]:=by
 have hl:=(eQ.1 hk).1;refine⟨_,3,rfl,by simp,by simp,λi x hx=>?_⟩
 match i,hx with
 | 0,hx=>cases hx;exact⟨K,0,[Value.string ⟨#[46]⟩,.int .i64 7,.int .i64 60,.slice (some ⟨d0,0,none⟩) 1 1,.slice (some ⟨g0,0,none⟩) 1 1],rfl,hl,rfl,λj u hj=>by have:=ae _ hk (0+j) u (by match j,hj with | 0,hj=>exact hj | 1,hj=>exact hj | 2,hj=>exact hj | 3,hj=>exact hj | 4,hj=>exact hj);simpa using this,h.at0.2⟩
 | 1,hx=>cases hx;exact⟨K,0,[Value.string ⟨#[120]⟩,.int .i64 6,.int .i64 60,.slice (some ⟨d1,0,none⟩) 1 1,.slice (some ⟨g1,0,none⟩) 1 1],rfl,hl,rfl,λj u hj=>by have:=ae _ hk (5+j) u (by match j,hj with | 0,hj=>exact hj | 1,hj=>exact hj | 2,hj=>exact hj | 3,hj=>exact hj | 4,hj=>exact hj);simpa using this,h.at1.2⟩
 | 2,hx=>cases hx;exact⟨K,0,[Value.string ⟨#[119,46,120]⟩,.int .i64 1,.int .i64 60,.slice (some ⟨d3,0,none⟩) 1 1,.slice (some ⟨g3,0,none⟩) 1 1],rfl,hl,rfl,λj u hj=>by have:=ae _ hk (10+j) u (by match j,hj with | 0,hj=>exact hj | 1,hj=>exact hj | 2,hj=>exact hj | 3,hj=>exact hj | 4,hj=>exact hj);simpa using this,h.at3.2⟩
theorem DW(x:Np.Verd)(e1 e2:List Value)(w:World)(h1:iT w w.heap.size e1 x)(h2:iT w w.heap.size e2 x) :
 Calls prog 15 #[.agg e1.toArray,.agg e2.toArray] w λe w'=>e = .returned (.bool true)/\Below w.heap.size w w':=by
 obtain⟨q,A,n,c,rfl,hq,cA,hs⟩:=h1;obtain⟨q',A',n',c',rfl,hq',_,hs'⟩:=h2;obtain rfl:q'=q:=mF (by rw[hq,hq']);obtain⟨k,hk⟩:=aRZ x.kind;obtain⟨q2,fH⟩:=aRZ x.q.2;rw[hk,fH];obtain⟨X,hX⟩:=aRZ w.heap.size;obtain⟨w1,ah⟩:=aRZ (w.alloc (.cells #[.int .i64 k,.string q',.int .i64 q2,.slice A n c] 33));obtain⟨w2,aX⟩:=aRZ (w1.alloc (.cells #[.int .i64 k,.string q',.int .i64 q2,.slice A' n' c'] 33));have ay:Below w.heap.size w w1:=by rw[<-ah];exact aj _ _
 have z1:w1.heap.size=X+1:=by rw[<-ah,<-hX];simp
 have ag:Below w1.heap.size w1 w2:=by rw[<-aX];exact aj _ _
 have p:=bD (r:=[.int .i64 k,.string q',.int .i64 q2,.slice A n c]) hX ah;have r:=bD (r:=[.int .i64 k,.string q',.int .i64 q2,.slice A' n' c']) z1 aX;have p0:=aQY ag (p 0 _ rfl);have r0:=r 0 _ rfl;have p1:=aQY ag (p 1 _ rfl);have r1:=r 1 _ rfl;have p2:=aQY ag (p 2 _ rfl);have r2:=r 2 _ rfl;have p3:=aQY ag (p 3 _ rfl);have r3:=r 3 _ rfl;have hb:=ay.trans (ag.aSZ);have HB:=jq hb;have HS:=jq (hs.later az bf hb);have HS':=jq (hs'.later az bf hb);have pY:∀ w:World,(binOp .eql 27 (.agg #[.string q',.int .i64 q2]) (.agg #[.string q',.int .i64 q2])).run prog w = .ok (.bool true) w:=λw=>by rw[eqQ];simp
 clear ay ag p r hb hs hs' hq hq' hk fH;go_enter func15,ntmps15;go_wp2_with fail;clear ah;go_wp2_with fail;clear aX;go_wp2_with fail;refine (DU _ _ x.sets w2 HS.out HS'.out).mono ?_;rintro e w3 ⟨rfl,ai⟩;have am:=jq (HB.out.trans (ai.mono HB.out.size));clear ai;go_wp2_with fail;go_ret;exact⟨rfl,am.out⟩
def dC(L d0 g0 d1 g1 d2 g2 d3 g3:Nat)(e9:Value)(e10:Value)(e11:Value)(i:Nat):Value:=[.slice (some ⟨L,0,none⟩) 4 4,.pointer (some ⟨L,0,none⟩),.agg #[.string ⟨#[46]⟩,.int .i64 7,.int .i64 60,.slice (some ⟨d0,0,none⟩) 1 1,.slice (some ⟨g0,0,none⟩) 1 1],.slice (some ⟨L,0,none⟩) 4 4,.pointer (some ⟨L,5,none⟩),.agg #[.string ⟨#[120]⟩,.int .i64 6,.int .i64 60,.slice (some ⟨d1,0,none⟩) 1 1,.slice (some ⟨g1,0,none⟩) 1 1],.slice (some ⟨L,0,none⟩) 4 4,.pointer (some ⟨L,15,none⟩),.agg #[.string ⟨#[119,46,120]⟩,.int .i64 1,.int .i64 60,.slice (some ⟨d3,0,none⟩) 1 1,.slice (some ⟨g3,0,none⟩) 1 1],e9,e10,e11,undef].getD i undef
def fT(i:Nat):Nat:=[23,24,25,26,27,28,29,30,31,32,33,3,0].getD i 0
def YU:List Nat:=[0,1,2,3,4,5,6,7,8,9,10,11].map fT
theorem ik:∀ i∈[0,1,2,3,4,5,6,7,8,9,10,11],fT i<157/\fT i∈YU:=by decide
theorem jt:∀ i∈[0,1,2,3,4,5,6,7,8,9,10,11],∀ j∈[0,1,2,3,4,5,6,7,8,9,10,11],j≠i->fT i≠fT j:=by decide
def Hd3(a0:Act)(L d0 g0 d1 g1 d2 g2 d3 g3:Nat)(w3:World)(ex:Exit)(a':Act)(w':World):Prop:=
 ∃ (K b3:Nat) (q3:ByteArray) (A3:Option Addr) (n3 m3:Nat),ex = .normal/\a'=nb a0 ([0,1,2,3,4,5,6,7,8,9,10,11].map λi=>(fT i,dC L d0 g0 d1 g1 d2 g2 d3 g3 (.slice (some ⟨K,0,none⟩) 3 3) (.agg #[.int .i64 3,.string q3,.int .i64 7,.slice A3 n3 m3]) (.pointer (some ⟨b3,0,none⟩)) i))/\
   w'.heap[b3]?=some (.cells [Value.int .i64 3,.string q3,.int .i64 7,.slice A3 n3 m3].toArray 33 (0,0))/\iT w' w'.heap.size [.int .i64 3,.string q3,.int .i64 7,.slice A3 n3 m3] ⟨3,([120],7),[]⟩/\Below w3.heap.size w3 w'
structure RefRow(W:World)(RW D1 D2 D3:Nat):Prop where
 r:W.heap[RW]?=some (.cells [Value.string ⟨#[121,46,120]⟩,.int .i64 2,.int .i64 0,.slice (some ⟨D1,0,none⟩) 1 1,.slice none 0 0,.string ⟨#[97,46,121,46,120]⟩,.int .i64 1,.int .i64 0,.slice (some ⟨D2,0,none⟩) 1 1,.slice none 0 0,.string ⟨#[98,46,121,46,120]⟩,.int .i64 1,.int .i64 0,.slice (some ⟨D3,0,none⟩) 1 1,.slice none 0 0].toArray 44 (0,0))
 d1:W.heap[D1]?=some (.cells [Value.string ⟨#[97,46,121,46,120]⟩,.int .i64 0,.int .i64 0].toArray 75 (0,0))
 d2:W.heap[D2]?=some (.cells [Value.string ⟨#[]⟩,.int .i64 1,.int .i64 0].toArray 75 (0,0))
 d3:W.heap[D3]?=some (.cells [Value.string ⟨#[]⟩,.int .i64 2,.int .i64 0].toArray 75 (0,0))
theorem RefRow.keep{W W':World}{RW D1 D2 D3:Nat}(h:RefRow W RW D1 D2 D3)(hb:Below W.heap.size W W'):RefRow W' RW D1 D2 D3:=
 ⟨(hb.block _ (eQ.1 h.r).1).trans h.r,(hb.block _ (eQ.1 h.d1).1).trans h.d1,(hb.block _ (eQ.1 h.d2).1).trans h.d2,(hb.block _ (eQ.1 h.d3).1).trans h.d3⟩
theorem Ie{W:World}{D:Nat}{s:ByteArray}{n m:Int}(hs:s.size<=140737488355328)(h:W.heap[D]?=some (.cells [Value.string s,.int .i64 n,.int .i64 m].toArray 75 (0,0))):SlR bS 3 W W.heap.size (.slice (some ⟨D,0,none⟩) 1 1) [⟨s.data.toList,n,m⟩]:=by
 refine⟨_,1,rfl,by simp,by simp,λi x hx=>?_⟩
 match i,hx with
 | 0,hx=>
  cases hx
  exact⟨D,0,[Value.string s,.int .i64 n,.int .i64 m],rfl,(eQ.1 h).1,rfl,λj u hj=>by have:=ae _ h j u hj;simpa using this,⟨s,rfl,hs,rfl⟩⟩
theorem RefRow.at{W:World}{RW D1 D2 D3:Nat}(h:RefRow W RW D1 D2 D3) :
 (eB W RW 0 [.string ⟨#[121,46,120]⟩,.int .i64 2,.int .i64 0,.slice (some ⟨D1,0,none⟩) 1 1,.slice none 0 0]/\aB W W.heap.size [.string ⟨#[121,46,120]⟩,.int .i64 2,.int .i64 0,.slice (some ⟨D1,0,none⟩) 1 1,.slice none 0 0] Np.rfS)/\
 (eB W RW 5 [.string ⟨#[97,46,121,46,120]⟩,.int .i64 1,.int .i64 0,.slice (some ⟨D2,0,none⟩) 1 1,.slice none 0 0]/\aB W W.heap.size [.string ⟨#[97,46,121,46,120]⟩,.int .i64 1,.int .i64 0,.slice (some ⟨D2,0,none⟩) 1 1,.slice none 0 0] Np.rfA)/\
 (eB W RW 10 [.string ⟨#[98,46,121,46,120]⟩,.int .i64 1,.int .i64 0,.slice (some ⟨D3,0,none⟩) 1 1,.slice none 0 0]/\aB W W.heap.size [.string ⟨#[98,46,121,46,120]⟩,.int .i64 1,.int .i64 0,.slice (some ⟨D3,0,none⟩) 1 1,.slice none 0 0] Np.rfB):=by
 refine⟨⟨λj u hj=>by have:=ae _ h.r (0+j) u (by match j,hj with | 0,hj=>exact hj | 1,hj=>exact hj | 2,hj=>exact hj | 3,hj=>exact hj | 4,hj=>exact hj);simpa using this,⟨_,_,_,rfl,by decide,Ie (by decide) h.d1,g8 _ _,rfl⟩⟩,⟨λj u hj=>ae _ h.r (5+j) u (by match j,hj with | 0,hj=>exact hj | 1,hj=>exact hj | 2,hj=>exact hj | 3,hj=>exact hj | 4,hj=>exact hj),⟨_,_,_,rfl,by decide,Ie (by decide) h.d2,g8 _ _,rfl⟩⟩,⟨λj u hj=>ae _ h.r (10+j) u (by match j,hj with | 0,hj=>exact hj | 1,hj=>exact hj | 2,hj=>exact hj | 3,hj=>exact hj | 4,hj=>exact hj),⟨_,_,_,rfl,by decide,Ie (by decide) h.d3,g8 _ _,rfl⟩⟩⟩
theorem RefRow.ans{W:World}{RW D1 D2 D3:Nat}(h:RefRow W RW D1 D2 D3):lZ W W.heap.size [.int .i64 4,.slice (some ⟨RW,0,none⟩) 3 3,.string ⟨#[121,46,120]⟩] Np.oY:=by
 have hl:=(eQ.1 h.r).1;refine⟨_,_,⟨_,3,rfl,by decide,by decide,λi x hx=>?_⟩,rfl,by decide,rfl⟩
 match i,hx with
 | 0,hx=>cases hx;exact⟨RW,0,_,rfl,hl,rfl,by have:=h.at.1.1;simpa using this,h.at.1.2⟩
 | 1,hx=>cases hx;exact⟨RW,0,_,rfl,hl,rfl,by have:=h.at.2.1.1;simpa using this,h.at.2.1.2⟩
 | 2,hx=>cases hx;exact⟨RW,0,_,rfl,hl,rfl,by have:=h.at.2.2.1;simpa using this,h.at.2.2.2⟩
theorem RefRow.two{W:World}{RW D1 D2 D3:Nat}(h:RefRow W RW D1 D2 D3):SlR aB 5 W W.heap.size (.slice (some ⟨RW,0,none⟩) 2 3) [Np.rfS,Np.rfA]:=by
 have hl:=(eQ.1 h.r).1;refine⟨_,3,rfl,by decide,by decide,λi x hx=>?_⟩
 match i,hx with
 | 0,hx=>cases hx;exact⟨RW,0,_,rfl,hl,rfl,by have:=h.at.1.1;simpa using this,h.at.1.2⟩
 | 1,hx=>cases hx;exact⟨RW,0,_,rfl,hl,rfl,by have:=h.at.2.1.1;simpa using this,h.at.2.1.2⟩
theorem Np.Iq:∀ y∈Np.oY.sets,y.set.data.length<=100000/\y.sigs.length<=100000:=λy hy=>by
 have hy:y∈[Np.rfS,Np.rfA,Np.rfB]:=hy;simp only[List.mem_cons,Qh,or_false] at hy;rcases hy with rfl | rfl | rfl<;>exact⟨show 1<=100000 by decide,show 0<=100000 by decide⟩
def kS:Value->Value
 | .tuple xs=>xs.getD 0 undef
 | _=>undef
def kT:Value->Value
 | .tuple xs=>xs.getD 1 undef
 | _=>undef
def eK(L d0 g0 d1 g1 d2 g2 d3 g3 b9:Nat)(e6:Value)(e10:Value)(e11:Value)(i:Nat):Value:=[.slice (some ⟨L,0,none⟩) 4 4,.slice (some ⟨L,0,none⟩) 4 4,.pointer (some ⟨L,5,none⟩),.pointer (some ⟨L,5,none⟩),.agg #[.string ⟨#[120]⟩,.int .i64 6,.int .i64 60,.slice (some ⟨d1,0,none⟩) 1 1],.agg #[.string ⟨#[99,46,121,46,120]⟩,.int .i64 1],e6,e6,kS e6,kT e6,e10,e11,undef].getD i undef
def fB(i:Nat):Nat:=[86,87,88,89,90,91,92,85,93,94,16,0,17].getD i 0
def YR:List Nat:=[0,1,2,3,4,5,7,8,9,6,10].map fB
theorem qX:∀ i∈[0,1,2,3,4,5,7,8,9,6,10],fB i<157/\fB i∈YR:=by decide
theorem qY:∀ i∈[0,1,2,3,4,5,7,8,9,6,10],∀ j∈[0,1,2,3,4,5,7,8,9,6,10],j≠i->fB i≠fB j:=by decide
def YT:List Nat:=[0,1,2,3,4,5,7,8,9,6,10,11].map fB
theorem CR:∀ i∈[0,1,2,3,4,5,7,8,9,6,10,11],fB i<157/\fB i∈YT:=by decide
theorem N0:∀ i∈[0,1,2,3,4,5,7,8,9,6,10,11],∀ j∈[0,1,2,3,4,5,7,8,9,6,10,11],j≠i->fB i≠fB j:=by decide
def Hd14(a0:Act)(L d0 g0 d1 g1 d2 g2 d3 g3 b9:Nat)(w3:World)(ex:Exit)(a':Act)(w':World):Prop:=
 ∃ (qg:ByteArray) (Ag:Option Addr) (ng mg E:Nat),ex = .normal/\a'=(nb a0 ([0,1,2,3,4,5,7,8,9,6,10,11].map λi=>(fB i,eK L d0 g0 d1 g1 d2 g2 d3 g3 b9 (.tuple #[.agg #[.int .i64 0,.string qg,.int .i64 0,.slice Ag ng mg],.int .i64 1]) (.pointer (some ⟨E,0,none⟩)) (.bool false) i))).put (some 17) (.int .i64 1)/\Below w3.heap.size w3 w'
theorem yX{w0 w:World}{n E:Nat}(h:Below n w0 w)(hE:n<=E)(v0 v1 v2 v3:Value) :
 Below n w0 ((((w.setCell ⟨E,0,none⟩ v0).setCell ⟨E,1,none⟩ v1).setCell ⟨E,2,none⟩ v2).setCell ⟨E,3,none⟩ v3):=
 (((h.setCell (p:=⟨E,0,none⟩) hE _).setCell (p:=⟨E,1,none⟩) hE _).setCell (p:=⟨E,2,none⟩) hE _).setCell (p:=⟨E,3,none⟩) hE _
theorem IV{w:World}{B:Nat}{e:List Value}{k:Int}{q:List UInt8×Int}(h:iT w B e ⟨k,q,[]⟩)(w':World){B':Nat} : iT w' B' e ⟨k,q,[]⟩:=by
 obtain⟨qq,A,n,c,h1,h2,h3,A',c',h4,h5,h6,_⟩:=h;exact⟨qq,A,n,c,h1,h2,h3,A',c',h4,h5,h6,λi x hx=>by simp at hx⟩
theorem GC(w:World)(hR:bL w w.heap.size):Calls prog 9 #[] w (aUQ w.heap.size w (.bool true)):=by
 have yp:=jq hR;go_enter func9,ntmps9;go_wp2_with fail;refine (Mv w hR).mono ?_;rintro e w1 ⟨L,d0,g0,d1,g1,d2,g2,d3,g3,rfl,hex,gp,ay⟩;clear hR;have E9:=jq hex;have aH:=jq ay;have iN:=jq ((yp.out.keep ay).more ay.size);have tP:Hid (SlR aB 5 w1 w1.heap.size (.slice (some ⟨L,0,none⟩) 4 4) [Np.ex0,Np.ex1,Np.ex2,Np.ex3]):=jq (by have:=hex.all;rwa [Np.Ck] at this);clear hex ay;go_wp2_with fail;refine (vi (.slice (some ⟨L,0,none⟩) 4 4) [Np.ex0,Np.ex1,Np.ex2,Np.ex3] 50 _ Np.Xs w1 iN.out tP.out Np.Cl).mono ?_;rintro e w2 ⟨e2,rfl,xn,ag⟩;obtain⟨q2,A2,n2,m2,rfl,fH,Ae,eN⟩:=xn;dsimp only at fH eN |-;have ax:=jq (aH.out.trans (ag.mono aH.out.size));have yz:Hid (iT w2 w2.heap.size [.int .i64 1,.string q2,.int .i64 0,.slice A2 n2 m2] ⟨1,([],0),[Np.ex3]⟩):=jq ⟨q2,A2,n2,m2,rfl,fH,Ae,eN⟩;obtain⟨w3,ci⟩:=aRZ (w2.alloc (.cells #[.int .i64 1,.string q2,.int .i64 0,.slice A2 n2 m2] 33));have ai:Below w2.heap.size w2 w3:=by rw[<-ci];exact aj _ _
 have dP:w3.heap[w2.heap.size]?=some (.cells [Value.int .i64 1,.string q2,.int .i64 0,.slice A2 n2 m2].toArray 33 (0,0)):=by rw[<-ci];exact heap_alloc_new _ _
 obtain⟨b2,NS⟩:=aRZ w2.heap.size;rw[NS] at dP;have Vu:=jq dP;have nz:=ag.trans (ai.mono ag.size);have BR:=jq (E9.out.keep nz);have gN:=jq ((iN.out.keep nz).more nz.size);have am:=jq (ax.out.trans (ai.mono ax.out.size));have BO:=jq (yz.out.later ai);have nJ:b2<w3.heap.size:=by rw[<-NS,<-ci];simp
 clear fH eN ag ai dP nz;go_wp2_with fail;clear ci;go_wp2_with fail;obtain⟨w4,dD⟩:=aRZ w3.drew;have av:Below w3.heap.size w3 w4:=by rw[<-dD];exact (vQ _ _).drew
 have ji:=jq (BR.out.keep av);have gi:=jq ((gN.out.keep av).more av.size);have pl:=jq av;clear av;have c0:=ae _ ji.out.l 0 _ rfl;have c1:=ae _ ji.out.l 1 _ rfl;have c2:=ae _ ji.out.l 2 _ rfl;have c3:=ae _ ji.out.l 3 _ rfl;have c4:=ae _ ji.out.l 4 _ rfl;have c5:=ae _ ji.out.l 5 _ rfl;have c6:=ae _ ji.out.l 6 _ rfl;have c7:=ae _ ji.out.l 7 _ rfl;have c8:=ae _ ji.out.l 8 _ rfl;have c9:=ae _ ji.out.l 9 _ rfl;have c15:=ae _ ji.out.l 15 _ rfl;have c16:=ae _ ji.out.l 16 _ rfl;have c17:=ae _ ji.out.l 17 _ rfl;have c18:=ae _ ji.out.l 18 _ rfl;have c19:=ae _ ji.out.l 19 _ rfl;refine QU λa0 d9=>?_;have qr:=jq d9;have je:=jq (show a0.eval (.tmp 1) = .slice (some ⟨L,0,none⟩) 4 4 by rw[d9];rfl);have HM:=jq (show a0.tmps.size=157 by rw[d9];rfl);clear d9;refine Go.wp_mono (Q:=Hd3 a0 L d0 g0 d1 g1 d2 g2 d3 g3 w4) (wp_region_any (by kernel_rfl) ?_) ?_
 case refine_1=>
  try rw[show ({ heap:=w3.heap,tape:=w3.tape,drawn:=w3.drawn+1,os:=w3.os,output:=w3.output } : World)=w4 from dD]
  try rw[dD]
  clear dD;refine IE [9,11] 9 (D:=[0,1,2,3,4,5,6,7,8]) (val:=dC L d0 g0 d1 g1 d2 g2 d3 g3 undef undef undef) ik jt (zI HM.out) (by kernel_rfl) ?_ ?_
  ·intro i aW bE o ho a' hb aV;have k1':=aTK hb je.out;simp[Act.eval] at k1'
   repeat' (rcases aW with _ | ⟨_,aW⟩)
   all_goals first
    | (exfalso;simp at bE;done)
    | (cases ho
       try simp[Act.eval,Region.binds,dC,fT] at aV
       refine eZ (by simp[Region.wanted]) ?_;simp[Oper.quietAt,Oper.quietUpon,execOp,go_sem,dC,k1',c0,c1,c2,c3,c4,c5,c6,c7,c8,c9,c15,c16,c17,c18,c19,aV])
  ·intro p nE
   repeat' (rcases nE with _ | ⟨_,nE⟩)
   ·intro f listed a' hH hr hv;have av2:=hv 2;have av5:=hv 5;have av8:=hv 8;simp[Act.eval,dC,fT] at av2 av5 av8;simp only[wpOp];simp[Region.wanted];refine .inl ?_;simp[Oper.wp,execOp,go_sem,av2,av5,av8];obtain⟨wk,rj⟩:=aRX (w4.alloc (.cells #[.string ⟨#[46]⟩,.int .i64 7,.int .i64 60,.slice (some ⟨d0,0,none⟩) 1 1,.slice (some ⟨g0,0,none⟩) 1 1,.string ⟨#[120]⟩,.int .i64 6,.int .i64 60,.slice (some ⟨d1,0,none⟩) 1 1,.slice (some ⟨g1,0,none⟩) 1 1,.string ⟨#[119,46,120]⟩,.int .i64 1,.int .i64 60,.slice (some ⟨d3,0,none⟩) 1 1,.slice (some ⟨g3,0,none⟩) 1 1] 44));rw[<-rj];have cw:Below w4.heap.size w4 wk:=by rw[rj];exact aj _ _
    have cM:Hid (L<w4.heap.size):=jq (World.block_lt_of_cell? _ _ c0);have zg:wk.heap[w4.heap.size]?=some (.cells [Value.string ⟨#[46]⟩,.int .i64 7,.int .i64 60,.slice (some ⟨d0,0,none⟩) 1 1,.slice (some ⟨g0,0,none⟩) 1 1,.string ⟨#[120]⟩,.int .i64 6,.int .i64 60,.slice (some ⟨d1,0,none⟩) 1 1,.slice (some ⟨g1,0,none⟩) 1 1,.string ⟨#[119,46,120]⟩,.int .i64 1,.int .i64 60,.slice (some ⟨d3,0,none⟩) 1 1,.slice (some ⟨g3,0,none⟩) 1 1].toArray 44 (0,0)):=by rw[rj];exact heap_alloc_new _ _
    replace c0:=(cw.cell (p:=⟨L,0,none⟩) (cM.out)).trans c0;replace c1:=(cw.cell (p:=⟨L,1,none⟩) (cM.out)).trans c1;replace c2:=(cw.cell (p:=⟨L,2,none⟩) (cM.out)).trans c2;replace c3:=(cw.cell (p:=⟨L,3,none⟩) (cM.out)).trans c3;replace c4:=(cw.cell (p:=⟨L,4,none⟩) (cM.out)).trans c4;replace c5:=(cw.cell (p:=⟨L,5,none⟩) (cM.out)).trans c5;replace c6:=(cw.cell (p:=⟨L,6,none⟩) (cM.out)).trans c6;replace c7:=(cw.cell (p:=⟨L,7,none⟩) (cM.out)).trans c7;replace c8:=(cw.cell (p:=⟨L,8,none⟩) (cM.out)).trans c8;replace c9:=(cw.cell (p:=⟨L,9,none⟩) (cM.out)).trans c9;replace c15:=(cw.cell (p:=⟨L,15,none⟩) (cM.out)).trans c15;replace c16:=(cw.cell (p:=⟨L,16,none⟩) (cM.out)).trans c16;replace c17:=(cw.cell (p:=⟨L,17,none⟩) (cM.out)).trans c17;replace c18:=(cw.cell (p:=⟨L,18,none⟩) (cM.out)).trans c18;replace c19:=(cw.cell (p:=⟨L,19,none⟩) (cM.out)).trans c19;have r8:=jq (ji.out.keep cw);have rV:=jq ((gi.out.keep cw).more cw.size);have eo:=jq (r8.out.three zg);have lJ:=jq cw;clear rj cw zg;refine IE [10,11] 10 (D:=[0,1,2,3,4,5,6,7,8,9]) (val:=dC L d0 g0 d1 g1 d2 g2 d3 g3 (.slice (some ⟨w4.heap.size,0,none⟩) 3 3) undef undef) ik jt (hH.next ik jt hr) (by kernel_rfl) ?_ ?_
    ·intro i aW bE o ho a' hb aV;have k1':=aTK hb je.out;simp[Act.eval] at k1'
     repeat' (rcases aW with _ | ⟨_,aW⟩)
     all_goals first
      | (exfalso;simp at bE;done)
      | (cases ho
         try simp[Act.eval,Region.binds,dC,fT] at aV
         refine eZ (by simp[Region.wanted]) ?_;simp[Oper.quietAt,Oper.quietUpon,execOp,go_sem,dC,k1',c0,c1,c2,c3,c4,c5,c6,c7,c8,c9,c15,c16,c17,c18,c19,aV])
    ·intro p nE
     repeat' (rcases nE with _ | ⟨_,nE⟩)
     ·intro f listed a' hH hr hv;have av9:=hv 9;simp[Act.eval,dC,fT] at av9;simp only[wpOp];simp[Region.wanted];refine .inl ?_;simp[Oper.wp,go_sem,av9];refine (vi (.slice (some ⟨w4.heap.size,0,none⟩) 3 3) [Np.ex0,Np.ex1,Np.ex3] 50 _ Np.Fv wk rV.out eo.out Np.Fw).mono ?_;rintro e wj ⟨e3,rfl,oK,aJ⟩;obtain⟨q3,A3,n3,m3,rfl,fW,Af,bu⟩:=oK;dsimp only at fW bu |-;have cC:Hid (L<wk.heap.size):=jq (World.block_lt_of_cell? _ _ c0);replace c0:=(aJ.cell (p:=⟨L,0,none⟩) (cC.out)).trans c0;replace c1:=(aJ.cell (p:=⟨L,1,none⟩) (cC.out)).trans c1;replace c2:=(aJ.cell (p:=⟨L,2,none⟩) (cC.out)).trans c2;replace c3:=(aJ.cell (p:=⟨L,3,none⟩) (cC.out)).trans c3;replace c4:=(aJ.cell (p:=⟨L,4,none⟩) (cC.out)).trans c4;replace c5:=(aJ.cell (p:=⟨L,5,none⟩) (cC.out)).trans c5;replace c6:=(aJ.cell (p:=⟨L,6,none⟩) (cC.out)).trans c6;replace c7:=(aJ.cell (p:=⟨L,7,none⟩) (cC.out)).trans c7;replace c8:=(aJ.cell (p:=⟨L,8,none⟩) (cC.out)).trans c8;replace c9:=(aJ.cell (p:=⟨L,9,none⟩) (cC.out)).trans c9;replace c15:=(aJ.cell (p:=⟨L,15,none⟩) (cC.out)).trans c15;replace c16:=(aJ.cell (p:=⟨L,16,none⟩) (cC.out)).trans c16;replace c17:=(aJ.cell (p:=⟨L,17,none⟩) (cC.out)).trans c17;replace c18:=(aJ.cell (p:=⟨L,18,none⟩) (cC.out)).trans c18;replace c19:=(aJ.cell (p:=⟨L,19,none⟩) (cC.out)).trans c19;have hU:Hid (iT wj wj.heap.size [.int .i64 3,.string q3,.int .i64 7,.slice A3 n3 m3] ⟨3,([120],7),[]⟩):=jq ⟨q3,A3,n3,m3,rfl,fW,Af,bu⟩;have cU:=jq aJ;clear fW bu aJ;refine f9 11 (D:=[0,1,2,3,4,5,6,7,8,9,10]) (val:=dC L d0 g0 d1 g1 d2 g2 d3 g3 (.slice (some ⟨w4.heap.size,0,none⟩) 3 3) (.agg #[.int .i64 3,.string q3,.int .i64 7,.slice A3 n3 m3]) undef) ik jt (hH.next ik jt hr) (by kernel_rfl) ?_ ?_
      ·intro i aW bE o ho a' hb aV;have k1':=aTK hb je.out;simp[Act.eval] at k1'
       repeat' (rcases aW with _ | ⟨_,aW⟩)
       all_goals first
        | (exfalso;simp at bE;done)
        | (cases ho
           try simp[Act.eval,Region.binds,dC,fT] at aV
           refine eZ (by simp[Region.wanted]) ?_;simp[Oper.quietAt,Oper.quietUpon,execOp,go_sem,dC,k1',c0,c1,c2,c3,c4,c5,c6,c7,c8,c9,c15,c16,c17,c18,c19,aV])
      ·intro f listed a' hH hr hv;simp only[wpOp];simp[Region.wanted];refine .inl ?_;simp[Oper.wp,execOp,go_sem];obtain⟨wd,cY⟩:=aRX (wj.alloc (.cells #[.int .i64 0,.string ⟨#[]⟩,.int .i64 0,.slice none 0 0] 33));rw[<-cY];have aD:Hid (Below wj.heap.size wj wd):=jq (by rw[cY];exact aj _ _);have lL:Hid (wd.heap[wj.heap.size]?=some (.cells [Value.int .i64 0,.string ⟨#[]⟩,.int .i64 0,.slice none 0 0].toArray 33 (0,0))):=jq (by rw[cY];exact heap_alloc_new _ _);have jf:Hid (wj.heap.size<wd.heap.size):=jq (by rw[cY];simp);have cm:Hid (L<wj.heap.size):=jq (World.block_lt_of_cell? _ _ c0);replace c0:=(aD.out.cell (p:=⟨L,0,none⟩) (cm.out)).trans c0;replace c1:=(aD.out.cell (p:=⟨L,1,none⟩) (cm.out)).trans c1;replace c2:=(aD.out.cell (p:=⟨L,2,none⟩) (cm.out)).trans c2;replace c3:=(aD.out.cell (p:=⟨L,3,none⟩) (cm.out)).trans c3;replace c4:=(aD.out.cell (p:=⟨L,4,none⟩) (cm.out)).trans c4;replace c5:=(aD.out.cell (p:=⟨L,5,none⟩) (cm.out)).trans c5;replace c6:=(aD.out.cell (p:=⟨L,6,none⟩) (cm.out)).trans c6;replace c7:=(aD.out.cell (p:=⟨L,7,none⟩) (cm.out)).trans c7;replace c8:=(aD.out.cell (p:=⟨L,8,none⟩) (cm.out)).trans c8;replace c9:=(aD.out.cell (p:=⟨L,9,none⟩) (cm.out)).trans c9;replace c15:=(aD.out.cell (p:=⟨L,15,none⟩) (cm.out)).trans c15;replace c16:=(aD.out.cell (p:=⟨L,16,none⟩) (cm.out)).trans c16;replace c17:=(aD.out.cell (p:=⟨L,17,none⟩) (cm.out)).trans c17;replace c18:=(aD.out.cell (p:=⟨L,18,none⟩) (cm.out)).trans c18;replace c19:=(aD.out.cell (p:=⟨L,19,none⟩) (cm.out)).trans c19;have yC:=jq (r8.out.keep (cU.out.trans (aD.out.mono cU.out.size)));have rT:=jq ((rV.out.keep (cU.out.trans (aD.out.mono cU.out.size))).more (cU.out.trans (aD.out.mono cU.out.size)).size);clear cY;refine f9 12 (D:=[0,1,2,3,4,5,6,7,8,9,10,11]) (val:=dC L d0 g0 d1 g1 d2 g2 d3 g3 (.slice (some ⟨w4.heap.size,0,none⟩) 3 3) (.agg #[.int .i64 3,.string q3,.int .i64 7,.slice A3 n3 m3]) (.pointer (some ⟨wj.heap.size,0,none⟩))) ik jt (hH.next ik jt hr) (by kernel_rfl) ?_ ?_
       ·intro i aW bE o ho a' hb aV;have k1':=aTK hb je.out;simp[Act.eval] at k1'
        repeat' (rcases aW with _ | ⟨_,aW⟩)
        all_goals first
         | (exfalso;simp at bE;done)
         | (cases ho
            try simp[Act.eval,Region.binds,dC,fT] at aV
            refine eZ (by simp[Region.wanted]) ?_;simp[Oper.quietAt,Oper.quietUpon,execOp,go_sem,dC,k1',c0,c1,c2,c3,c4,c5,c6,c7,c8,c9,c15,c16,c17,c18,c19,aV])
       ·intro f listed a' hH hr hv;have av10:=hv 10;have av11:=hv 11;simp[Act.eval,dC,fT] at av10 av11;simp only[wpOp];simp[Region.wanted];refine .inl ?_;have aS:=lL.out;have y0:=ae _ aS 0 _ rfl;have f0:wd.frozen? ⟨wj.heap.size,0,none⟩=false:=by simp[World.frozen?,aS]
        have y1:=ae _ aS 1 _ rfl;have f1:wd.frozen? ⟨wj.heap.size,1,none⟩=false:=by simp[World.frozen?,aS]
        have y2:=ae _ aS 2 _ rfl;have f2:wd.frozen? ⟨wj.heap.size,2,none⟩=false:=by simp[World.frozen?,aS]
        have y3:=ae _ aS 3 _ rfl;have f3:wd.frozen? ⟨wj.heap.size,3,none⟩=false:=by simp[World.frozen?,aS]
        simp[Oper.wp,execOp,go_sem,av10,av11,y0,y1,y2,y3,f0,f1,f2,f3];refine rI hH hr HM.out ik (by kernel_rfl) λfC=>?_
        ·rw[fC];have hE:w4.heap.size<=wj.heap.size:=by have h1:=lJ.out.size;have h2:=cU.out.size;have h3:=aD.out.size;omega
         refine⟨w4.heap.size,wj.heap.size,q3,A3,n3,m3,rfl,rfl,by simp[World.setCell,Array.getElem?_modify,aS],?_,yX (lJ.out.trans ((cU.out.trans (aD.out.mono cU.out.size)).mono lJ.out.size)) hE _ _ _ _⟩;exact IV (hU.out.later aD.out) _
     ·intro f listed a' hH hr hv;simp only[wpOp];simp[Region.wanted];refine .inl ?_;simp[Oper.wp,execOp,go_sem];obtain⟨wd,cY⟩:=aRX (wk.alloc (.cells #[.int .i64 0,.string ⟨#[]⟩,.int .i64 0,.slice none 0 0] 33));rw[<-cY];have aD:Hid (Below wk.heap.size wk wd):=jq (by rw[cY];exact aj _ _);have lL:Hid (wd.heap[wk.heap.size]?=some (.cells [Value.int .i64 0,.string ⟨#[]⟩,.int .i64 0,.slice none 0 0].toArray 33 (0,0))):=jq (by rw[cY];exact heap_alloc_new _ _);have jf:Hid (wk.heap.size<wd.heap.size):=jq (by rw[cY];simp);have cm:Hid (L<wk.heap.size):=jq (World.block_lt_of_cell? _ _ c0);replace c0:=(aD.out.cell (p:=⟨L,0,none⟩) (cm.out)).trans c0;replace c1:=(aD.out.cell (p:=⟨L,1,none⟩) (cm.out)).trans c1;replace c2:=(aD.out.cell (p:=⟨L,2,none⟩) (cm.out)).trans c2;replace c3:=(aD.out.cell (p:=⟨L,3,none⟩) (cm.out)).trans c3;replace c4:=(aD.out.cell (p:=⟨L,4,none⟩) (cm.out)).trans c4;replace c5:=(aD.out.cell (p:=⟨L,5,none⟩) (cm.out)).trans c5;replace c6:=(aD.out.cell (p:=⟨L,6,none⟩) (cm.out)).trans c6;replace c7:=(aD.out.cell (p:=⟨L,7,none⟩) (cm.out)).trans c7;replace c8:=(aD.out.cell (p:=⟨L,8,none⟩) (cm.out)).trans c8;replace c9:=(aD.out.cell (p:=⟨L,9,none⟩) (cm.out)).trans c9;replace c15:=(aD.out.cell (p:=⟨L,15,none⟩) (cm.out)).trans c15;replace c16:=(aD.out.cell (p:=⟨L,16,none⟩) (cm.out)).trans c16;replace c17:=(aD.out.cell (p:=⟨L,17,none⟩) (cm.out)).trans c17;replace c18:=(aD.out.cell (p:=⟨L,18,none⟩) (cm.out)).trans c18;replace c19:=(aD.out.cell (p:=⟨L,19,none⟩) (cm.out)).trans c19;have yC:=jq (r8.out.keep aD.out);have rT:=jq ((rV.out.keep aD.out).more aD.out.size);clear cY;refine f9 10 (D:=[0,1,2,3,4,5,6,7,8,9,11]) (val:=dC L d0 g0 d1 g1 d2 g2 d3 g3 (.slice (some ⟨w4.heap.size,0,none⟩) 3 3) undef (.pointer (some ⟨wk.heap.size,0,none⟩))) ik jt (hH.next ik jt hr) (by kernel_rfl) ?_ ?_
      ·intro i aW bE o ho a' hb aV;have k1':=aTK hb je.out;simp[Act.eval] at k1'
       repeat' (rcases aW with _ | ⟨_,aW⟩)
       all_goals first
        | (exfalso;simp at bE;done)
        | (cases ho
           try simp[Act.eval,Region.binds,dC,fT] at aV
           refine eZ (by simp[Region.wanted]) ?_;simp[Oper.quietAt,Oper.quietUpon,execOp,go_sem,dC,k1',c0,c1,c2,c3,c4,c5,c6,c7,c8,c9,c15,c16,c17,c18,c19,aV])
      ·intro f listed a' hH hr hv;have av9:=hv 9;simp[Act.eval,dC,fT] at av9;simp only[wpOp];simp[Region.wanted];refine .inl ?_;simp[Oper.wp,go_sem,av9];refine (vi (.slice (some ⟨w4.heap.size,0,none⟩) 3 3) [Np.ex0,Np.ex1,Np.ex3] 50 _ Np.Fv wd rT.out (eo.out.later az bf aD.out) Np.Fw).mono ?_;rintro e wj ⟨e3,rfl,oK,aJ⟩;obtain⟨q3,A3,n3,m3,rfl,fW,Af,bu⟩:=oK;dsimp only at fW bu |-;have cC:Hid (L<wd.heap.size):=jq (World.block_lt_of_cell? _ _ c0);replace c0:=(aJ.cell (p:=⟨L,0,none⟩) (cC.out)).trans c0;replace c1:=(aJ.cell (p:=⟨L,1,none⟩) (cC.out)).trans c1;replace c2:=(aJ.cell (p:=⟨L,2,none⟩) (cC.out)).trans c2;replace c3:=(aJ.cell (p:=⟨L,3,none⟩) (cC.out)).trans c3;replace c4:=(aJ.cell (p:=⟨L,4,none⟩) (cC.out)).trans c4;replace c5:=(aJ.cell (p:=⟨L,5,none⟩) (cC.out)).trans c5;replace c6:=(aJ.cell (p:=⟨L,6,none⟩) (cC.out)).trans c6;replace c7:=(aJ.cell (p:=⟨L,7,none⟩) (cC.out)).trans c7;replace c8:=(aJ.cell (p:=⟨L,8,none⟩) (cC.out)).trans c8;replace c9:=(aJ.cell (p:=⟨L,9,none⟩) (cC.out)).trans c9;replace c15:=(aJ.cell (p:=⟨L,15,none⟩) (cC.out)).trans c15;replace c16:=(aJ.cell (p:=⟨L,16,none⟩) (cC.out)).trans c16;replace c17:=(aJ.cell (p:=⟨L,17,none⟩) (cC.out)).trans c17;replace c18:=(aJ.cell (p:=⟨L,18,none⟩) (cC.out)).trans c18;replace c19:=(aJ.cell (p:=⟨L,19,none⟩) (cC.out)).trans c19;have hU:Hid (iT wj wj.heap.size [.int .i64 3,.string q3,.int .i64 7,.slice A3 n3 m3] ⟨3,([120],7),[]⟩):=jq ⟨q3,A3,n3,m3,rfl,fW,Af,bu⟩;have cU:=jq aJ;clear fW bu aJ;refine f9 12 (D:=[0,1,2,3,4,5,6,7,8,9,10,11]) (val:=dC L d0 g0 d1 g1 d2 g2 d3 g3 (.slice (some ⟨w4.heap.size,0,none⟩) 3 3) (.agg #[.int .i64 3,.string q3,.int .i64 7,.slice A3 n3 m3]) (.pointer (some ⟨wk.heap.size,0,none⟩))) ik jt (hH.next ik jt hr) (by kernel_rfl) ?_ ?_
       ·intro i aW bE o ho a' hb aV;have k1':=aTK hb je.out;simp[Act.eval] at k1'
        repeat' (rcases aW with _ | ⟨_,aW⟩)
        all_goals first
         | (exfalso;simp at bE;done)
         | (cases ho
            try simp[Act.eval,Region.binds,dC,fT] at aV
            refine eZ (by simp[Region.wanted]) ?_;simp[Oper.quietAt,Oper.quietUpon,execOp,go_sem,dC,k1',c0,c1,c2,c3,c4,c5,c6,c7,c8,c9,c15,c16,c17,c18,c19,aV])
       ·intro f listed a' hH hr hv;have av10:=hv 10;have av11:=hv 11;simp[Act.eval,dC,fT] at av10 av11;simp only[wpOp];simp[Region.wanted];refine .inl ?_;have aS:=(cU.out.block wk.heap.size jf.out).trans lL.out;have y0:=ae _ aS 0 _ rfl;have f0:wj.frozen? ⟨wk.heap.size,0,none⟩=false:=by simp[World.frozen?,aS]
        have y1:=ae _ aS 1 _ rfl;have f1:wj.frozen? ⟨wk.heap.size,1,none⟩=false:=by simp[World.frozen?,aS]
        have y2:=ae _ aS 2 _ rfl;have f2:wj.frozen? ⟨wk.heap.size,2,none⟩=false:=by simp[World.frozen?,aS]
        have y3:=ae _ aS 3 _ rfl;have f3:wj.frozen? ⟨wk.heap.size,3,none⟩=false:=by simp[World.frozen?,aS]
        simp[Oper.wp,execOp,go_sem,av10,av11,y0,y1,y2,y3,f0,f1,f2,f3];refine rI hH hr HM.out ik (by kernel_rfl) λfC=>?_
        ·rw[fC];have hE:w4.heap.size<=wk.heap.size:=by have h1:=lJ.out.size;have h2:=cU.out.size;have h3:=aD.out.size;omega
         refine⟨w4.heap.size,wk.heap.size,q3,A3,n3,m3,rfl,rfl,by simp[World.setCell,Array.getElem?_modify,aS],?_,yX (lJ.out.trans ((aD.out.trans (cU.out.mono aD.out.size)).mono lJ.out.size)) hE _ _ _ _⟩;exact IV (hU.out) _
   ·intro f listed a' hH hr hv;simp only[wpOp];simp[Region.wanted];refine .inl ?_;simp[Oper.wp,execOp,go_sem];obtain⟨wd,cY⟩:=aRX (w4.alloc (.cells #[.int .i64 0,.string ⟨#[]⟩,.int .i64 0,.slice none 0 0] 33));rw[<-cY];have aD:Hid (Below w4.heap.size w4 wd):=jq (by rw[cY];exact aj _ _);have lL:Hid (wd.heap[w4.heap.size]?=some (.cells [Value.int .i64 0,.string ⟨#[]⟩,.int .i64 0,.slice none 0 0].toArray 33 (0,0))):=jq (by rw[cY];exact heap_alloc_new _ _);have jf:Hid (w4.heap.size<wd.heap.size):=jq (by rw[cY];simp);have cm:Hid (L<w4.heap.size):=jq (World.block_lt_of_cell? _ _ c0);replace c0:=(aD.out.cell (p:=⟨L,0,none⟩) (cm.out)).trans c0;replace c1:=(aD.out.cell (p:=⟨L,1,none⟩) (cm.out)).trans c1;replace c2:=(aD.out.cell (p:=⟨L,2,none⟩) (cm.out)).trans c2;replace c3:=(aD.out.cell (p:=⟨L,3,none⟩) (cm.out)).trans c3;replace c4:=(aD.out.cell (p:=⟨L,4,none⟩) (cm.out)).trans c4;replace c5:=(aD.out.cell (p:=⟨L,5,none⟩) (cm.out)).trans c5;replace c6:=(aD.out.cell (p:=⟨L,6,none⟩) (cm.out)).trans c6;replace c7:=(aD.out.cell (p:=⟨L,7,none⟩) (cm.out)).trans c7;replace c8:=(aD.out.cell (p:=⟨L,8,none⟩) (cm.out)).trans c8;replace c9:=(aD.out.cell (p:=⟨L,9,none⟩) (cm.out)).trans c9;replace c15:=(aD.out.cell (p:=⟨L,15,none⟩) (cm.out)).trans c15;replace c16:=(aD.out.cell (p:=⟨L,16,none⟩) (cm.out)).trans c16;replace c17:=(aD.out.cell (p:=⟨L,17,none⟩) (cm.out)).trans c17;replace c18:=(aD.out.cell (p:=⟨L,18,none⟩) (cm.out)).trans c18;replace c19:=(aD.out.cell (p:=⟨L,19,none⟩) (cm.out)).trans c19;have yC:=jq (ji.out.keep aD.out);have rT:=jq ((gi.out.keep aD.out).more aD.out.size);clear cY;refine f9 9 (D:=[0,1,2,3,4,5,6,7,8,11]) (val:=dC L d0 g0 d1 g1 d2 g2 d3 g3 undef undef (.pointer (some ⟨w4.heap.size,0,none⟩))) ik jt (hH.next ik jt hr) (by kernel_rfl) ?_ ?_
    ·intro i aW bE o ho a' hb aV;have k1':=aTK hb je.out;simp[Act.eval] at k1'
     repeat' (rcases aW with _ | ⟨_,aW⟩)
     all_goals first
      | (exfalso;simp at bE;done)
      | (cases ho
         try simp[Act.eval,Region.binds,dC,fT] at aV
         refine eZ (by simp[Region.wanted]) ?_;simp[Oper.quietAt,Oper.quietUpon,execOp,go_sem,dC,k1',c0,c1,c2,c3,c4,c5,c6,c7,c8,c9,c15,c16,c17,c18,c19,aV])
    ·intro f listed a' hH hr hv;have av2:=hv 2;have av5:=hv 5;have av8:=hv 8;simp[Act.eval,dC,fT] at av2 av5 av8;simp only[wpOp];simp[Region.wanted];refine .inl ?_;simp[Oper.wp,execOp,go_sem,av2,av5,av8];obtain⟨wk,rj⟩:=aRX (wd.alloc (.cells #[.string ⟨#[46]⟩,.int .i64 7,.int .i64 60,.slice (some ⟨d0,0,none⟩) 1 1,.slice (some ⟨g0,0,none⟩) 1 1,.string ⟨#[120]⟩,.int .i64 6,.int .i64 60,.slice (some ⟨d1,0,none⟩) 1 1,.slice (some ⟨g1,0,none⟩) 1 1,.string ⟨#[119,46,120]⟩,.int .i64 1,.int .i64 60,.slice (some ⟨d3,0,none⟩) 1 1,.slice (some ⟨g3,0,none⟩) 1 1] 44));rw[<-rj];have cw:Below wd.heap.size wd wk:=by rw[rj];exact aj _ _
     have cM:Hid (L<wd.heap.size):=jq (World.block_lt_of_cell? _ _ c0);have zg:wk.heap[wd.heap.size]?=some (.cells [Value.string ⟨#[46]⟩,.int .i64 7,.int .i64 60,.slice (some ⟨d0,0,none⟩) 1 1,.slice (some ⟨g0,0,none⟩) 1 1,.string ⟨#[120]⟩,.int .i64 6,.int .i64 60,.slice (some ⟨d1,0,none⟩) 1 1,.slice (some ⟨g1,0,none⟩) 1 1,.string ⟨#[119,46,120]⟩,.int .i64 1,.int .i64 60,.slice (some ⟨d3,0,none⟩) 1 1,.slice (some ⟨g3,0,none⟩) 1 1].toArray 44 (0,0)):=by rw[rj];exact heap_alloc_new _ _
     replace c0:=(cw.cell (p:=⟨L,0,none⟩) (cM.out)).trans c0;replace c1:=(cw.cell (p:=⟨L,1,none⟩) (cM.out)).trans c1;replace c2:=(cw.cell (p:=⟨L,2,none⟩) (cM.out)).trans c2;replace c3:=(cw.cell (p:=⟨L,3,none⟩) (cM.out)).trans c3;replace c4:=(cw.cell (p:=⟨L,4,none⟩) (cM.out)).trans c4;replace c5:=(cw.cell (p:=⟨L,5,none⟩) (cM.out)).trans c5;replace c6:=(cw.cell (p:=⟨L,6,none⟩) (cM.out)).trans c6;replace c7:=(cw.cell (p:=⟨L,7,none⟩) (cM.out)).trans c7;replace c8:=(cw.cell (p:=⟨L,8,none⟩) (cM.out)).trans c8;replace c9:=(cw.cell (p:=⟨L,9,none⟩) (cM.out)).trans c9;replace c15:=(cw.cell (p:=⟨L,15,none⟩) (cM.out)).trans c15;replace c16:=(cw.cell (p:=⟨L,16,none⟩) (cM.out)).trans c16;replace c17:=(cw.cell (p:=⟨L,17,none⟩) (cM.out)).trans c17;replace c18:=(cw.cell (p:=⟨L,18,none⟩) (cM.out)).trans c18;replace c19:=(cw.cell (p:=⟨L,19,none⟩) (cM.out)).trans c19;have r8:=jq (yC.out.keep cw);have rV:=jq ((rT.out.keep cw).more cw.size);have eo:=jq (r8.out.three zg);have lJ:=jq cw;clear rj cw zg;refine f9 10 (D:=[0,1,2,3,4,5,6,7,8,9,11]) (val:=dC L d0 g0 d1 g1 d2 g2 d3 g3 (.slice (some ⟨wd.heap.size,0,none⟩) 3 3) undef (.pointer (some ⟨w4.heap.size,0,none⟩))) ik jt (hH.next ik jt hr) (by kernel_rfl) ?_ ?_
     ·intro i aW bE o ho a' hb aV;have k1':=aTK hb je.out;simp[Act.eval] at k1'
      repeat' (rcases aW with _ | ⟨_,aW⟩)
      all_goals first
       | (exfalso;simp at bE;done)
       | (cases ho
          try simp[Act.eval,Region.binds,dC,fT] at aV
          refine eZ (by simp[Region.wanted]) ?_;simp[Oper.quietAt,Oper.quietUpon,execOp,go_sem,dC,k1',c0,c1,c2,c3,c4,c5,c6,c7,c8,c9,c15,c16,c17,c18,c19,aV])
     ·intro f listed a' hH hr hv;have av9:=hv 9;simp[Act.eval,dC,fT] at av9;simp only[wpOp];simp[Region.wanted];refine .inl ?_;simp[Oper.wp,go_sem,av9];refine (vi (.slice (some ⟨wd.heap.size,0,none⟩) 3 3) [Np.ex0,Np.ex1,Np.ex3] 50 _ Np.Fv wk rV.out eo.out Np.Fw).mono ?_;rintro e wj ⟨e3,rfl,oK,aJ⟩;obtain⟨q3,A3,n3,m3,rfl,fW,Af,bu⟩:=oK;dsimp only at fW bu |-;have cC:Hid (L<wk.heap.size):=jq (World.block_lt_of_cell? _ _ c0);replace c0:=(aJ.cell (p:=⟨L,0,none⟩) (cC.out)).trans c0;replace c1:=(aJ.cell (p:=⟨L,1,none⟩) (cC.out)).trans c1;replace c2:=(aJ.cell (p:=⟨L,2,none⟩) (cC.out)).trans c2;replace c3:=(aJ.cell (p:=⟨L,3,none⟩) (cC.out)).trans c3;replace c4:=(aJ.cell (p:=⟨L,4,none⟩) (cC.out)).trans c4;replace c5:=(aJ.cell (p:=⟨L,5,none⟩) (cC.out)).trans c5;replace c6:=(aJ.cell (p:=⟨L,6,none⟩) (cC.out)).trans c6;replace c7:=(aJ.cell (p:=⟨L,7,none⟩) (cC.out)).trans c7;replace c8:=(aJ.cell (p:=⟨L,8,none⟩) (cC.out)).trans c8;replace c9:=(aJ.cell (p:=⟨L,9,none⟩) (cC.out)).trans c9;replace c15:=(aJ.cell (p:=⟨L,15,none⟩) (cC.out)).trans c15;replace c16:=(aJ.cell (p:=⟨L,16,none⟩) (cC.out)).trans c16;replace c17:=(aJ.cell (p:=⟨L,17,none⟩) (cC.out)).trans c17;replace c18:=(aJ.cell (p:=⟨L,18,none⟩) (cC.out)).trans c18;replace c19:=(aJ.cell (p:=⟨L,19,none⟩) (cC.out)).trans c19;have hU:Hid (iT wj wj.heap.size [.int .i64 3,.string q3,.int .i64 7,.slice A3 n3 m3] ⟨3,([120],7),[]⟩):=jq ⟨q3,A3,n3,m3,rfl,fW,Af,bu⟩;have cU:=jq aJ;clear fW bu aJ;refine f9 12 (D:=[0,1,2,3,4,5,6,7,8,9,10,11]) (val:=dC L d0 g0 d1 g1 d2 g2 d3 g3 (.slice (some ⟨wd.heap.size,0,none⟩) 3 3) (.agg #[.int .i64 3,.string q3,.int .i64 7,.slice A3 n3 m3]) (.pointer (some ⟨w4.heap.size,0,none⟩))) ik jt (hH.next ik jt hr) (by kernel_rfl) ?_ ?_
      ·intro i aW bE o ho a' hb aV;have k1':=aTK hb je.out;simp[Act.eval] at k1'
       repeat' (rcases aW with _ | ⟨_,aW⟩)
       all_goals first
        | (exfalso;simp at bE;done)
        | (cases ho
           try simp[Act.eval,Region.binds,dC,fT] at aV
           refine eZ (by simp[Region.wanted]) ?_;simp[Oper.quietAt,Oper.quietUpon,execOp,go_sem,dC,k1',c0,c1,c2,c3,c4,c5,c6,c7,c8,c9,c15,c16,c17,c18,c19,aV])
      ·intro f listed a' hH hr hv;have av10:=hv 10;have av11:=hv 11;simp[Act.eval,dC,fT] at av10 av11;simp only[wpOp];simp[Region.wanted];refine .inl ?_;have aS:=(cU.out.block w4.heap.size (lqQ jf.out lJ.out.size)).trans ((lJ.out.block w4.heap.size jf.out).trans lL.out);have y0:=ae _ aS 0 _ rfl;have f0:wj.frozen? ⟨w4.heap.size,0,none⟩=false:=by simp[World.frozen?,aS]
       have y1:=ae _ aS 1 _ rfl;have f1:wj.frozen? ⟨w4.heap.size,1,none⟩=false:=by simp[World.frozen?,aS]
       have y2:=ae _ aS 2 _ rfl;have f2:wj.frozen? ⟨w4.heap.size,2,none⟩=false:=by simp[World.frozen?,aS]
       have y3:=ae _ aS 3 _ rfl;have f3:wj.frozen? ⟨w4.heap.size,3,none⟩=false:=by simp[World.frozen?,aS]
       simp[Oper.wp,execOp,go_sem,av10,av11,y0,y1,y2,y3,f0,f1,f2,f3];refine rI hH hr HM.out ik (by kernel_rfl) λfC=>?_
       ·rw[fC];have hE:w4.heap.size<=w4.heap.size:=by have h1:=lJ.out.size;have h2:=cU.out.size;have h3:=aD.out.size;omega
        refine⟨wd.heap.size,w4.heap.size,q3,A3,n3,m3,rfl,rfl,by simp[World.setCell,Array.getElem?_modify,aS],?_,yX (aD.out.trans ((lJ.out.trans (cU.out.mono lJ.out.size)).mono aD.out.size)) hE _ _ _ _⟩;exact IV (hU.out) _
 rintro ex a' w5 ⟨K,b3,q3,A3,n3,m3,rfl,rfl,O8,oK,aI⟩;clear c0 c1 c2 c3 c4 c5 c6 c7 c8 c9 c15 c16 c17 c18 c19 dD;rw[qr.out];simp[nb,Act.put,dC,fT];have K7:=jq O8;have Uy:=jq oK;have ux:=pl.out.trans (aI.mono pl.out.size);have kD:=jq (BR.out.keep ux);have tM:=jq ((gN.out.keep ux).more ux.size);have aK:=jq (am.out.trans (ux.mono am.out.size));have KQ:=jq ((ux.block b2 nJ).trans Vu.out);have Um:=jq (BO.out.later ux);clear O8 oK aI ux;go_wp2_with fail;refine (vi (.slice (some ⟨L,0,none⟩) 3 4) [Np.ex0,Np.ex1,Np.ex2] 50 _ Np.Xt w5 tM.out kD.out.first Np.exfn).mono ?_;rintro e w6j ⟨ee,rfl,hv,aJ⟩;obtain⟨q4,A4,n4,m4,rfl,hq,cA,hs⟩:=hv;dsimp only at hq hs |-;have hU:Hid (iT w6j w6j.heap.size [.int .i64 3,.string q4,.int .i64 1,.slice A4 n4 m4] ⟨3,([119,46,120],1),[]⟩):=jq ⟨q4,A4,n4,m4,rfl,hq,cA,hs⟩;obtain⟨w6,mx⟩:=aRZ (w6j.alloc (.cells #[.int .i64 3,.string q4,.int .i64 1,.slice A4 n4 m4] 33));have om:Below w6j.heap.size w6j w6:=by rw[<-mx];exact aj _ _
 have dP:w6.heap[w6j.heap.size]?=some (.cells [Value.int .i64 3,.string q4,.int .i64 1,.slice A4 n4 m4].toArray 33 (0,0)):=by rw[<-mx];exact heap_alloc_new _ _
 obtain⟨b4,ii⟩:=aRZ w6j.heap.size;have UM:=jq (hU.out.later om);rw[ii] at dP;have Lj:=jq dP;have dg:=aJ.trans (om.mono aJ.size);have jh:=jq ((tM.out.keep dg).more dg.size);have aU:=jq (aK.out.trans (dg.mono aK.out.size));have qI:=jq (kD.out.keep dg);have KR:=jq ((dg.block b2 (eQ.1 KQ.out).1).trans KQ.out);have Un:=jq (Um.out.later dg);have K8:=jq ((dg.block b3 (eQ.1 K7.out).1).trans K7.out);have Uz:=jq (Uy.out.later dg);clear hq hs aJ om dP dg;go_wp2_with fail;clear mx ii hU;go_wp2_with fail;refine (vi (.slice (some ⟨L,0,none⟩) 4 4) [Np.ex0,Np.ex1,Np.ex2,Np.ex3] 96 _ Np.Xr w6 jh.out (by have h:=qI.out.all;rwa [Np.Ck] at h) Np.Cl).mono ?_;rintro e w7j ⟨ee,rfl,hv,aJ⟩;obtain⟨q5,A5,n5,m5,rfl,hq,cA,hs⟩:=hv;dsimp only at hq hs |-;have hU:Hid (iT w7j w7j.heap.size [.int .i64 2,.string q5,.int .i64 0,.slice A5 n5 m5] ⟨2,([],0),[]⟩):=jq ⟨q5,A5,n5,m5,rfl,hq,cA,hs⟩;obtain⟨w7,mx⟩:=aRZ (w7j.alloc (.cells #[.int .i64 2,.string q5,.int .i64 0,.slice A5 n5 m5] 33));have om:Below w7j.heap.size w7j w7:=by rw[<-mx];exact aj _ _
 have dP:w7.heap[w7j.heap.size]?=some (.cells [Value.int .i64 2,.string q5,.int .i64 0,.slice A5 n5 m5].toArray 33 (0,0)):=by rw[<-mx];exact heap_alloc_new _ _
 obtain⟨b5,ii⟩:=aRZ w7j.heap.size;have UZ:=jq (hU.out.later om);rw[ii] at dP;have Lv:=jq dP;have dg:=aJ.trans (om.mono aJ.size);have BI:=jq ((jh.out.keep dg).more dg.size);have cL:=jq (aU.out.trans (dg.mono aU.out.size));have KH:=jq (qI.out.keep dg);have KS:=jq ((dg.block b2 (eQ.1 KR.out).1).trans KR.out);have Uo:=jq (Un.out.later dg);have K9:=jq ((dg.block b3 (eQ.1 K8.out).1).trans K8.out);have UA:=jq (Uz.out.later dg);have Lk:=jq ((dg.block b4 (eQ.1 Lj.out).1).trans Lj.out);have UN:=jq (UM.out.later dg);clear hq hs aJ om dP dg;go_wp2_with fail;clear mx ii hU;go_wp2_with fail;refine (Mv w7 BI.out).mono ?_;rintro e w8 ⟨L',d0',g0',d1',g1',d2',g2',d3',g3',rfl,hex,Od,cu⟩;have R1:=jq hex;have vB:=jq cu;have r0:=ae _ hex.l 15 _ rfl;have r4:=ae _ hex.l 19 _ rfl;have s5:=ae _ hex.o3.g 5 _ rfl;have sf:w8.frozen? ⟨g3',5,none⟩=false:=by simp[World.frozen?,hex.o3.g]
 clear hex cu;go_wp2_with fail;obtain⟨w9,iF⟩:=aRZ (w8.setCell ⟨g3',5,none⟩ (.int .u64 (IntKind.u64.wrap ((Np.lu Np.ex3.set ⟨#[120]⟩ 3 1 0 100)+1))));rw[iF];have uy:IntKind.u64.wrap ((Np.lu Np.ex3.set ⟨#[120]⟩ 3 1 0 100)+1)=Np.Cj:=by kernel_rfl
 have x8:Hid (ExL w9 L' d0' g0' d1' g1' d2' g2' d3' g3' Np.Cj):=jq (by rw[<-iF,uy];exact R1.out.bump _);have gS:Below w7.heap.size w7 w9:=by rw[<-iF];exact vB.out.setCell (p:=⟨g3',5,none⟩) Od _
 have bv:=jq ((BI.out.keep gS).more gS.size);have cZ:=jq (cL.out.trans (gS.mono cL.out.size));have Fa:=jq (KH.out.keep gS);have KT:=jq ((gS.block b2 (eQ.1 KS.out).1).trans KS.out);have Up:=jq (Uo.out.later gS);have La:=jq ((gS.block b3 (eQ.1 K9.out).1).trans K9.out);have UB:=jq (UA.out.later gS);have Ll:=jq ((gS.block b4 (eQ.1 Lk.out).1).trans Lk.out);have UO:=jq (UN.out.later gS);have Lw:=jq ((gS.block b5 (eQ.1 Lv.out).1).trans Lv.out);have U0:=jq (UZ.out.later gS);clear gS iF r0 r4 s5 sf Od;refine (vi (.slice (some ⟨L',0,none⟩) 4 4) [Np.ex0,Np.ex1,Np.ex2,Np.exB Np.Cj] 50 _ Np.Xq w9 bv.out x8.out.all (Np.exfb _)).mono ?_;rintro e w10j ⟨ee,rfl,hv,aJ⟩;obtain⟨q7,A7,n7,m7,rfl,hq,cA,hs⟩:=hv;dsimp only at hq hs |-;have hU:Hid (iT w10j w10j.heap.size [.int .i64 2,.string q7,.int .i64 0,.slice A7 n7 m7] ⟨2,([],0),[]⟩):=jq ⟨q7,A7,n7,m7,rfl,hq,cA,hs⟩;obtain⟨w10,mx⟩:=aRZ (w10j.alloc (.cells #[.int .i64 2,.string q7,.int .i64 0,.slice A7 n7 m7] 33));have om:Below w10j.heap.size w10j w10:=by rw[<-mx];exact aj _ _
 have dP:w10.heap[w10j.heap.size]?=some (.cells [Value.int .i64 2,.string q7,.int .i64 0,.slice A7 n7 m7].toArray 33 (0,0)):=by rw[<-mx];exact heap_alloc_new _ _
 obtain⟨b7,ii⟩:=aRZ w10j.heap.size;have U1:=jq (hU.out.later om);rw[ii] at dP;have Ly:=jq dP;have dg:=aJ.trans (om.mono aJ.size);have Tt:=jq ((bv.out.keep dg).more dg.size);have qu:=jq (cZ.out.trans (dg.mono cZ.out.size));have Vh:=jq (Fa.out.keep dg);have KJ:=jq ((dg.block b2 (eQ.1 KT.out).1).trans KT.out);have Ug:=jq (Up.out.later dg);have KU:=jq ((dg.block b3 (eQ.1 La.out).1).trans La.out);have Uq:=jq (UB.out.later dg);have Lb:=jq ((dg.block b4 (eQ.1 Ll.out).1).trans Ll.out);have UD:=jq (UO.out.later dg);have Lm:=jq ((dg.block b5 (eQ.1 Lw.out).1).trans Lw.out);have UP:=jq (U0.out.later dg);clear hq hs aJ om dP dg;go_wp2_with fail;clear mx ii hU;go_wp2_with fail;obtain⟨D1,jW⟩:=aRZ w10.heap.size;rw[jW];obtain⟨D2,M7⟩:=aRZ (D1+1);rw[M7];obtain⟨D3,M8⟩:=aRZ (D2+1);rw[M8];obtain⟨RW,Nt⟩:=aRZ (D3+1);rw[Nt];obtain⟨b8,cu⟩:=aRZ (RW+1);rw[cu];obtain⟨b9,bM⟩:=aRZ (b8+1);rw[bM];obtain⟨w11,jy⟩:=aRZ (w10.alloc (.cells #[.string ⟨#[97,46,121,46,120]⟩,.int .i64 0,.int .i64 0] 75));rw[jy];obtain⟨w12,Ap⟩:=aRZ (w11.alloc (.cells #[.string ⟨#[]⟩,.int .i64 1,.int .i64 0] 75));rw[Ap];obtain⟨w13,xp⟩:=aRZ (w12.alloc (.cells #[.string ⟨#[]⟩,.int .i64 2,.int .i64 0] 75));rw[xp];obtain⟨w14,oL⟩:=aRZ (w13.alloc (.cells #[.string ⟨#[121,46,120]⟩,.int .i64 2,.int .i64 0,.slice (some ⟨D1,0,none⟩) 1 1,.slice none 0 0,.string ⟨#[97,46,121,46,120]⟩,.int .i64 1,.int .i64 0,.slice (some ⟨D2,0,none⟩) 1 1,.slice none 0 0,.string ⟨#[98,46,121,46,120]⟩,.int .i64 1,.int .i64 0,.slice (some ⟨D3,0,none⟩) 1 1,.slice none 0 0] 44));rw[oL];obtain⟨w15,xq⟩:=aRZ (w14.alloc (.cells #[.int .i64 4,.slice (some ⟨RW,0,none⟩) 3 3,.string ⟨#[121,46,120]⟩] 29));rw[xq];obtain⟨w16,mw⟩:=aRZ (w15.alloc (.cells #[.string ⟨#[99,46,121,46,120]⟩,.int .i64 1] 27));rw[mw];have s11:w11.heap.size=D2:=by rw[<-jy];simp;omega
 have s12:w12.heap.size=D3:=by rw[<-Ap];simp;omega
 have s13:w13.heap.size=RW:=by rw[<-xp];simp;omega
 have s14:w14.heap.size=b8:=by rw[<-oL];simp;omega
 have s15:w15.heap.size=b9:=by rw[<-xq];simp;omega
 have e11:Below w10.heap.size w10 w11:=by rw[<-jy];exact aj _ _
 have e12:Below w11.heap.size w11 w12:=by rw[<-Ap];exact aj _ _
 have e13:Below w12.heap.size w12 w13:=by rw[<-xp];exact aj _ _
 have e14:Below w13.heap.size w13 w14:=by rw[<-oL];exact aj _ _
 have e15:Below w14.heap.size w14 w15:=by rw[<-xq];exact aj _ _
 have e16:Below w15.heap.size w15 w16:=by rw[<-mw];exact aj _ _
 have f15:=e15.trans (e16.aSZ);have f14:=e14.trans (f15.aSZ);have f13:=e13.trans (f14.aSZ);have f12:=e12.trans (f13.aSZ);have f11:=e11.trans (f12.aSZ);have Kq:Hid (RefRow w16 RW D1 D2 D3):=jq ⟨(f15.block RW (by omega)).trans (by rw[<-oL,<-s13];exact heap_alloc_new _ _),(f12.block D1 (by omega)).trans (by rw[<-jy,<-jW];exact heap_alloc_new _ _),(f13.block D2 (by omega)).trans (by rw[<-Ap,<-s11];exact heap_alloc_new _ _),(f14.block D3 (by omega)).trans (by rw[<-xp,<-s12];exact heap_alloc_new _ _)⟩;have Ji:Hid (w16.heap[b8]?=some (.cells [Value.int .i64 4,.slice (some ⟨RW,0,none⟩) 3 3,.string ⟨#[121,46,120]⟩].toArray 29 (0,0))):=jq ((e16.block b8 (by omega)).trans (by rw[<-xq,<-s14];exact heap_alloc_new _ _));have Kd:Hid (w16.heap[b9]?=some (.cells [Value.string ⟨#[99,46,121,46,120]⟩,.int .i64 1].toArray 27 (0,0))):=jq (by rw[<-mw,<-s15];exact heap_alloc_new _ _);have Kj:=jq ((Tt.out.keep f11).more f11.size);have pk:=jq (qu.out.trans (f11.mono qu.out.size));have Vj:=jq (Vh.out.keep f11);have KL:=jq ((f11.block b2 (eQ.1 KJ.out).1).trans KJ.out);have Uh:=jq (Ug.out.later f11);have KV:=jq ((f11.block b3 (eQ.1 KU.out).1).trans KU.out);have Ur:=jq (Uq.out.later f11);have Lc:=jq ((f11.block b4 (eQ.1 Lb.out).1).trans Lb.out);have UE:=jq (UD.out.later f11);have Ln:=jq ((f11.block b5 (eQ.1 Lm.out).1).trans Lm.out);have UQ:=jq (UP.out.later f11);have Lz:=jq ((f11.block b7 (eQ.1 Ly.out).1).trans Ly.out);have U2:=jq (U1.out.later f11);clear e11 e12 e13 e14 e15 e16 f11 f12 f13 f14 f15 s11 s12 s13 s14 s15 jy Ap xp oL xq mw jW M7 M8 Nt cu bM;have hf:Np.fO (⟨#[120]⟩:ByteArray).data.toList (⟨#[99,46,121,46,120]⟩:ByteArray).data.toList 1 Np.oY=([Np.rfS,Np.rfA],0):=Np.auZ;have cO:=yV ⟨#[120]⟩ ⟨#[99,46,121,46,120]⟩ (by decide) (by decide) 1 Np.oY [.int .i64 4,.slice (some ⟨RW,0,none⟩) 3 3,.string ⟨#[121,46,120]⟩] w16 Kj.out Kq.out.ans Np.Iq;rw[hf] at cO;refine cO.mono ?_;rintro e w17 ⟨Af1,nf1,mf1,rfl,hs,hb⟩;have R4:Hid (SlR aB 5 w17 w17.heap.size (.slice Af1 nf1 mf1) [Np.rfS,Np.rfA]):=jq hs;have Kk:=jq ((Kj.out.keep hb).more hb.size);have AX:=jq (pk.out.trans (hb.mono pk.out.size));have Vk:=jq (Vj.out.keep hb);have KM:=jq ((hb.block b2 (eQ.1 KL.out).1).trans KL.out);have Ui:=jq (Uh.out.later hb);have KW:=jq ((hb.block b3 (eQ.1 KV.out).1).trans KV.out);have Us:=jq (Ur.out.later hb);have Ld:=jq ((hb.block b4 (eQ.1 Lc.out).1).trans Lc.out);have UF:=jq (UE.out.later hb);have Lo:=jq ((hb.block b5 (eQ.1 Ln.out).1).trans Ln.out);have UR:=jq (UQ.out.later hb);have LA:=jq ((hb.block b7 (eQ.1 Lz.out).1).trans Lz.out);have U3:=jq (U2.out.later hb);have Kr:=jq (Kq.out.keep hb);have xO:=jq ((hb.block b8 (eQ.1 Ji.out).1).trans Ji.out);have BG:=jq ((hb.block b9 (eQ.1 Kd.out).1).trans Kd.out);clear hs hb hf cO;have a0:=ae _ xO.out 0 _ rfl;have a1:=ae _ xO.out 1 _ rfl;have a2:=ae _ xO.out 2 _ rfl;have k0:=ae _ BG.out 0 _ rfl;have k1:=ae _ BG.out 1 _ rfl;go_wp2_with fail;clear a0 a1 a2 k0 k1;have hf:Np.fO (⟨#[121,46,120]⟩:ByteArray).data.toList (⟨#[99,46,121,46,120]⟩:ByteArray).data.toList 1 Np.oY=([],0):=Np.auQ;have cO:=yV ⟨#[121,46,120]⟩ ⟨#[99,46,121,46,120]⟩ (by decide) (by decide) 1 Np.oY [.int .i64 4,.slice (some ⟨RW,0,none⟩) 3 3,.string ⟨#[121,46,120]⟩] w17 Kk.out Kr.out.ans Np.Iq;rw[hf] at cO;refine cO.mono ?_;rintro e w18 ⟨Af2,nf2,mf2,rfl,hs,hb⟩;have Sf:Hid (SlR aB 5 w18 w18.heap.size (.slice Af2 nf2 mf2) []):=jq hs;have Kl:=jq ((Kk.out.keep hb).more hb.size);have Jq:=jq (AX.out.trans (hb.mono AX.out.size));have Vl:=jq (Vk.out.keep hb);have KN:=jq ((hb.block b2 (eQ.1 KM.out).1).trans KM.out);have Uj:=jq (Ui.out.later hb);have KX:=jq ((hb.block b3 (eQ.1 KW.out).1).trans KW.out);have Ut:=jq (Us.out.later hb);have Le:=jq ((hb.block b4 (eQ.1 Ld.out).1).trans Ld.out);have UG:=jq (UF.out.later hb);have Lp:=jq ((hb.block b5 (eQ.1 Lo.out).1).trans Lo.out);have US:=jq (UR.out.later hb);have LB:=jq ((hb.block b7 (eQ.1 LA.out).1).trans LA.out);have U4:=jq (U3.out.later hb);have Ks:=jq (Kr.out.keep hb);have xP:=jq ((hb.block b8 (eQ.1 xO.out).1).trans xO.out);have BH:=jq ((hb.block b9 (eQ.1 BG.out).1).trans BG.out);have R5:=jq (R4.out.later az bf hb);clear hs hb hf cO;have a0:=ae _ xP.out 0 _ rfl;have a1:=ae _ xP.out 1 _ rfl;have a2:=ae _ xP.out 2 _ rfl;have k0:=ae _ BH.out 0 _ rfl;have k1:=ae _ BH.out 1 _ rfl;go_wp2_with fail;clear a0 a1 a2 k0 k1;have hf:Np.fO (⟨#[42]⟩:ByteArray).data.toList (⟨#[99,46,121,46,120]⟩:ByteArray).data.toList 1 Np.oY=([],1):=Np.atY;have cO:=yV ⟨#[42]⟩ ⟨#[99,46,121,46,120]⟩ (by decide) (by decide) 1 Np.oY [.int .i64 4,.slice (some ⟨RW,0,none⟩) 3 3,.string ⟨#[121,46,120]⟩] w18 Kl.out Ks.out.ans Np.Iq;rw[hf] at cO;refine cO.mono ?_;rintro e w19 ⟨Af3,nf3,mf3,rfl,hs,hb⟩;have aQX:Hid (SlR aB 5 w19 w19.heap.size (.slice Af3 nf3 mf3) []):=jq hs;have Tu:=jq ((Kl.out.keep hb).more hb.size);have Jr:=jq (Jq.out.trans (hb.mono Jq.out.size));have Vm:=jq (Vl.out.keep hb);have KO:=jq ((hb.block b2 (eQ.1 KN.out).1).trans KN.out);have Uk:=jq (Uj.out.later hb);have KY:=jq ((hb.block b3 (eQ.1 KX.out).1).trans KX.out);have Uu:=jq (Ut.out.later hb);have Lf:=jq ((hb.block b4 (eQ.1 Le.out).1).trans Le.out);have UH:=jq (UG.out.later hb);have Lq:=jq ((hb.block b5 (eQ.1 Lp.out).1).trans Lp.out);have UT:=jq (US.out.later hb);have LC:=jq ((hb.block b7 (eQ.1 LB.out).1).trans LB.out);have U5:=jq (U4.out.later hb);have TD:=jq (Ks.out.keep hb);have Jj:=jq ((hb.block b8 (eQ.1 xP.out).1).trans xP.out);have Ke:=jq ((hb.block b9 (eQ.1 BH.out).1).trans BH.out);have R6:=jq (R5.out.later az bf hb);have Sg:=jq (Sf.out.later az bf hb);clear hs hb hf cO;go_wp2_with fail;obtain⟨w20,Aq⟩:=aRZ w19.drew;have ie:Below w19.heap.size w19 w20:=by rw[<-Aq];exact (vQ _ _).drew
 have EU:=jq ((Tu.out.keep ie).more ie.size);have Js:=jq (Jr.out.trans (ie.mono Jr.out.size));have kB:=jq (Vm.out.keep ie);have KP:=jq ((ie.block b2 (eQ.1 KO.out).1).trans KO.out);have Ul:=jq (Uk.out.later ie);have KZ:=jq ((ie.block b3 (eQ.1 KY.out).1).trans KY.out);have Uv:=jq (Uu.out.later ie);have Lg:=jq ((ie.block b4 (eQ.1 Lf.out).1).trans Lf.out);have UI:=jq (UH.out.later ie);have Lr:=jq ((ie.block b5 (eQ.1 Lq.out).1).trans Lq.out);have UU:=jq (UT.out.later ie);have LD:=jq ((ie.block b7 (eQ.1 LC.out).1).trans LC.out);have U6:=jq (U5.out.later ie);have TE:=jq (TD.out.keep ie);have R7:=jq (R6.out.later az bf ie);have Sh:=jq (Sg.out.later az bf ie);have Jk:=jq ((ie.block b8 (eQ.1 Jj.out).1).trans Jj.out);have vN:=jq ((ie.block b9 (eQ.1 Ke.out).1).trans Ke.out);clear ie;have k0:=ae _ vN.out 0 _ rfl;have k1:=ae _ vN.out 1 _ rfl;have c5:=ae _ kB.out.l 5 _ rfl;have c6:=ae _ kB.out.l 6 _ rfl;have c7:=ae _ kB.out.l 7 _ rfl;have c8:=ae _ kB.out.l 8 _ rfl;have Ku:Hid (SlR aB 5 w20 w20.heap.size (.slice (some ⟨L,0,none⟩) 4 4) [Np.ex0,Np.ex1,Np.ex2,Np.ex3]):=jq (by have h:=kB.out.all;rwa [Np.Ck] at h);have JQ:Hid (SlR bS 3 w20 w20.heap.size (.slice (some ⟨d1,0,none⟩) 1 1) Np.ex1.set.data):=jq (by
  obtain⟨_,_,_,_,_,h3,_,h5⟩:=kB.out.at1.2;simp only[List.cons.injEq,and_true] at h5;obtain⟨_,_,_,rfl,_⟩:=h5;exact h3)
 have fM:Hid (L<w20.heap.size):=jq (World.block_lt_of_cell? _ _ c5);have nl:Hid (b9<w20.heap.size):=jq (World.block_lt_of_cell? _ _ k0);refine QU λa0 d9=>?_;have qr:=jq d9;have je:=jq (show a0.eval (.tmp 1) = .slice (some ⟨L,0,none⟩) 4 4 by rw[d9];rfl);have tC:=jq (show a0.eval (.tmp 9) = .pointer (some ⟨b9,0,none⟩) by rw[d9];rfl);have yt:=jq (show a0.eval (.tmp 0) = .bool false by rw[d9];rfl);have HM:=jq (show a0.tmps.size=157 by rw[d9];rfl);clear d9;refine Go.wp_mono (Q:=Hd14 a0 L d0 g0 d1 g1 d2 g2 d3 g3 b9 w20) (wp_region_any (by kernel_rfl) ?_) ?_
 case refine_1=>
  try rw[show ({ heap:=w19.heap,tape:=w19.tape,drawn:=w19.drawn+1,os:=w19.os,output:=w19.output } : World)=w20 from Aq]
  try rw[Aq]
  clear Aq;refine aCY [6,10] 6 (D:=[0,1,2,3,4,5]) (val:=eK L d0 g0 d1 g1 d2 g2 d3 g3 b9 undef undef undef) qX qY (zI HM.out) (by kernel_rfl) ?_ ?_
  ·intro i aW bE o ho a' hb aV;have k1':=aTK hb je.out;have k9':=aTK hb tC.out;simp[Act.eval] at k1' k9'
   repeat' (rcases aW with _ | ⟨_,aW⟩)
   all_goals first
    | (exfalso;simp at bE;done)
    | (cases ho
       try simp[Act.eval,Region.binds,eK,fB] at aV
       refine eZ (by simp[Region.wanted]) ?_;simp[Oper.quietAt,Oper.quietUpon,execOp,go_sem,eK,k1',k9',c5,c6,c7,c8,k0,k1,kS,kT,aV])
  ·intro p nE
   repeat' (rcases nE with _ | ⟨_,nE⟩)
   ·intro f listed a' hH hr hv;have av0:=hv 0;have av4:=hv 4;have av5:=hv 5;simp[Act.eval,eK,fB,kS,kT] at av0 av4 av5;simp only[wpOp];simp[Region.wanted];refine .inl ?_;simp[Oper.wp,go_sem,av0,av4,av5];have cO:=Ay (.slice (some ⟨L,0,none⟩) 4 4) [Np.ex0,Np.ex1,Np.ex2,Np.ex3] ⟨#[120]⟩ ⟨#[99,46,121,46,120]⟩ Np.ex1.set rfl (by decide) (.slice (some ⟨d1,0,none⟩) 1 1) 1 50 5 (by decide) w20 EU.out Ku.out Np.Cl JQ.out;rw[show Np.eY [Np.ex0,Np.ex1,Np.ex2,Np.ex3] Np.ex1.set (⟨#[99,46,121,46,120]⟩:ByteArray).data.toList 1 50 5=(⟨0,([],0),[]⟩,1) from Np.Mt] at cO;refine cO.mono ?_;clear cO;rintro e wj ⟨qg,Ag,ng,mg,rfl,_,_,_,aJ⟩;replace c5:=(aJ.cell (p:=⟨L,5,none⟩) (fM.out)).trans c5;replace c6:=(aJ.cell (p:=⟨L,6,none⟩) (fM.out)).trans c6;replace c7:=(aJ.cell (p:=⟨L,7,none⟩) (fM.out)).trans c7;replace c8:=(aJ.cell (p:=⟨L,8,none⟩) (fM.out)).trans c8;replace k0:=(aJ.cell (p:=⟨b9,0,none⟩) (nl.out)).trans k0;replace k1:=(aJ.cell (p:=⟨b9,1,none⟩) (nl.out)).trans k1;have cU:=jq aJ;have J0:=jq aJ;clear aJ;dsimp only;refine f9 10 (D:=[0,1,2,3,4,5,7,8,9,6]) (val:=eK L d0 g0 d1 g1 d2 g2 d3 g3 b9 (.tuple #[.agg #[.int .i64 0,.string qg,.int .i64 0,.slice Ag ng mg],.int .i64 1]) undef undef) qX qY (hH.next qX qY hr) (by kernel_rfl) ?_ ?_
    ·intro i aW bE o ho a' hb aV;have k1':=aTK hb je.out;have k9':=aTK hb tC.out;simp[Act.eval] at k1' k9'
     repeat' (rcases aW with _ | ⟨_,aW⟩)
     all_goals first
      | (exfalso;simp at bE;done)
      | (cases ho
         try simp[Act.eval,Region.binds,eK,fB] at aV
         refine eZ (by simp[Region.wanted]) ?_;simp[Oper.quietAt,Oper.quietUpon,execOp,go_sem,eK,k1',k9',c5,c6,c7,c8,k0,k1,kS,kT,aV])
    ·intro f listed a' hH hr hv;simp only[wpOp];simp[Region.wanted];refine .inl ?_;simp[Oper.wp,execOp,go_sem];obtain⟨wd,cY⟩:=aRX (wj.alloc (.cells #[.int .i64 0,.string ⟨#[]⟩,.int .i64 0,.slice none 0 0] 33));rw[<-cY];have gm:Below wj.heap.size wj wd:=by rw[cY];exact aj _ _
     have lL:Hid (wd.heap[wj.heap.size]?=some (.cells [Value.int .i64 0,.string ⟨#[]⟩,.int .i64 0,.slice none 0 0].toArray 33 (0,0))):=jq (by rw[cY];exact heap_alloc_new _ _);have jf:Hid (wj.heap.size<wd.heap.size):=jq (by rw[cY];simp);replace c5:=(gm.cell (p:=⟨L,5,none⟩) (by have h1:=fM.out;have h2:=cU.out.size;dsimp only;omega)).trans c5;replace c6:=(gm.cell (p:=⟨L,6,none⟩) (by have h1:=fM.out;have h2:=cU.out.size;dsimp only;omega)).trans c6;replace c7:=(gm.cell (p:=⟨L,7,none⟩) (by have h1:=fM.out;have h2:=cU.out.size;dsimp only;omega)).trans c7;replace c8:=(gm.cell (p:=⟨L,8,none⟩) (by have h1:=fM.out;have h2:=cU.out.size;dsimp only;omega)).trans c8;replace k0:=(gm.cell (p:=⟨b9,0,none⟩) (by have h1:=nl.out;have h2:=cU.out.size;dsimp only;omega)).trans k0;replace k1:=(gm.cell (p:=⟨b9,1,none⟩) (by have h1:=nl.out;have h2:=cU.out.size;dsimp only;omega)).trans k1;have aD:=jq (cU.out.trans (gm.mono cU.out.size));clear cY gm;refine f9 11 (D:=[0,1,2,3,4,5,7,8,9,6,10]) (val:=eK L d0 g0 d1 g1 d2 g2 d3 g3 b9 (.tuple #[.agg #[.int .i64 0,.string qg,.int .i64 0,.slice Ag ng mg],.int .i64 1]) (.pointer (some ⟨wj.heap.size,0,none⟩)) undef) qX qY (hH.next qX qY hr) (by kernel_rfl) ?_ ?_
     ·intro i aW bE o ho a' hb aV;have k1':=aTK hb je.out;have k9':=aTK hb tC.out;simp[Act.eval] at k1' k9'
      repeat' (rcases aW with _ | ⟨_,aW⟩)
      all_goals first
       | (exfalso;simp at bE;done)
       | (cases ho
          try simp[Act.eval,Region.binds,eK,fB] at aV
          refine eZ (by simp[Region.wanted]) ?_;simp[Oper.quietAt,Oper.quietUpon,execOp,go_sem,eK,k1',k9',c5,c6,c7,c8,k0,k1,kS,kT,aV])
     ·intro f listed a' hH hr hv;have av8:=hv 8;have av10:=hv 10;simp[Act.eval,eK,fB,kS,kT] at av8 av10;simp only[wpOp];simp[Region.wanted];refine .inl ?_;have aS:=lL.out;have y0:=ae _ aS 0 _ rfl;have f0:wd.frozen? ⟨wj.heap.size,0,none⟩=false:=by simp[World.frozen?,aS]
      have y1:=ae _ aS 1 _ rfl;have f1:wd.frozen? ⟨wj.heap.size,1,none⟩=false:=by simp[World.frozen?,aS]
      have y2:=ae _ aS 2 _ rfl;have f2:wd.frozen? ⟨wj.heap.size,2,none⟩=false:=by simp[World.frozen?,aS]
      have y3:=ae _ aS 3 _ rfl;have f3:wd.frozen? ⟨wj.heap.size,3,none⟩=false:=by simp[World.frozen?,aS]
      simp[Oper.wp,execOp,go_sem,av8,av10,y0,y1,y2,y3,f0,f1,f2,f3];have hE:w20.heap.size<=wj.heap.size:=by first | exact bQ _ | exact cU.out.size
      have pO:=yX (aD.out) hE (.int .i64 0) (.string qg) (.int .i64 0) (.slice Ag ng mg);obtain⟨ws,At⟩:=aRX ((((wd.setCell ⟨wj.heap.size,0,none⟩ (.int .i64 0)).setCell ⟨wj.heap.size,1,none⟩ (.string qg)).setCell ⟨wj.heap.size,2,none⟩ (.int .i64 0)).setCell ⟨wj.heap.size,3,none⟩ (.slice Ag ng mg));rw[<-At] at pO |-;have em:=jq pO;clear At pO aS y0 y1 y2 y3 f0 f1 f2 f3 c5 c6 c7 c8 k0 k1;have c5:=(em.out.cell (p:=⟨L,5,none⟩) fM.out).trans (ae _ kB.out.l 5 _ rfl);have c6:=(em.out.cell (p:=⟨L,6,none⟩) fM.out).trans (ae _ kB.out.l 6 _ rfl);have c7:=(em.out.cell (p:=⟨L,7,none⟩) fM.out).trans (ae _ kB.out.l 7 _ rfl);have c8:=(em.out.cell (p:=⟨L,8,none⟩) fM.out).trans (ae _ kB.out.l 8 _ rfl);have k0:=(em.out.cell (p:=⟨b9,0,none⟩) nl.out).trans (ae _ vN.out 0 _ rfl);have k1:=(em.out.cell (p:=⟨b9,1,none⟩) nl.out).trans (ae _ vN.out 1 _ rfl);refine f9 12 (D:=[0,1,2,3,4,5,7,8,9,6,10,11]) (val:=eK L d0 g0 d1 g1 d2 g2 d3 g3 b9 (.tuple #[.agg #[.int .i64 0,.string qg,.int .i64 0,.slice Ag ng mg],.int .i64 1]) (.pointer (some ⟨wj.heap.size,0,none⟩)) (.bool false)) CR N0 (hH.skip hr (hv:=yt.out.symm)) (by kernel_rfl) ?_ ?_
      ·intro i aW bE o ho a' hb aV;have k1':=aTK hb je.out;have k9':=aTK hb tC.out;simp[Act.eval] at k1' k9'
       repeat' (rcases aW with _ | ⟨_,aW⟩)
       all_goals first
        | (exfalso;simp at bE;done)
        | (cases ho
           try simp[Act.eval,Region.binds,eK,fB] at aV
           refine eZ (by simp[Region.wanted]) ?_;simp[Oper.quietAt,Oper.quietUpon,execOp,go_sem,eK,k1',k9',c5,c6,c7,c8,k0,k1,kS,kT,aV])
      ·intro f listed a' hH hr hv;have av9:=hv 9;simp[Act.eval,eK,fB,kS,kT] at av9;simp only[wpOp];simp[Region.wanted];refine .inl ?_;simp[Oper.wp,execOp,go_sem,av9];refine rI hH hr HM.out CR (by kernel_rfl) λfC=>?_
       ·rw[fC];exact⟨qg,Ag,ng,mg,wj.heap.size,rfl,rfl,em.out⟩
   ·intro f listed a' hH hr hv;simp only[wpOp];simp[Region.wanted];refine .inl ?_;simp[Oper.wp,execOp,go_sem];obtain⟨wd,cY⟩:=aRX (w20.alloc (.cells #[.int .i64 0,.string ⟨#[]⟩,.int .i64 0,.slice none 0 0] 33));rw[<-cY];have gm:Below w20.heap.size w20 wd:=by rw[cY];exact aj _ _
    have lL:Hid (wd.heap[w20.heap.size]?=some (.cells [Value.int .i64 0,.string ⟨#[]⟩,.int .i64 0,.slice none 0 0].toArray 33 (0,0))):=jq (by rw[cY];exact heap_alloc_new _ _);have jf:Hid (w20.heap.size<wd.heap.size):=jq (by rw[cY];simp);replace c5:=(gm.cell (p:=⟨L,5,none⟩) (fM.out)).trans c5;replace c6:=(gm.cell (p:=⟨L,6,none⟩) (fM.out)).trans c6;replace c7:=(gm.cell (p:=⟨L,7,none⟩) (fM.out)).trans c7;replace c8:=(gm.cell (p:=⟨L,8,none⟩) (fM.out)).trans c8;replace k0:=(gm.cell (p:=⟨b9,0,none⟩) (nl.out)).trans k0;replace k1:=(gm.cell (p:=⟨b9,1,none⟩) (nl.out)).trans k1;have aD:=jq gm;clear cY gm;refine f9 6 (D:=[0,1,2,3,4,5,10]) (val:=eK L d0 g0 d1 g1 d2 g2 d3 g3 b9 undef (.pointer (some ⟨w20.heap.size,0,none⟩)) undef) qX qY (hH.next qX qY hr) (by kernel_rfl) ?_ ?_
    ·intro i aW bE o ho a' hb aV;have k1':=aTK hb je.out;have k9':=aTK hb tC.out;simp[Act.eval] at k1' k9'
     repeat' (rcases aW with _ | ⟨_,aW⟩)
     all_goals first
      | (exfalso;simp at bE;done)
      | (cases ho
         try simp[Act.eval,Region.binds,eK,fB] at aV
         refine eZ (by simp[Region.wanted]) ?_;simp[Oper.quietAt,Oper.quietUpon,execOp,go_sem,eK,k1',k9',c5,c6,c7,c8,k0,k1,kS,kT,aV])
    ·intro f listed a' hH hr hv;have av0:=hv 0;have av4:=hv 4;have av5:=hv 5;simp[Act.eval,eK,fB,kS,kT] at av0 av4 av5;simp only[wpOp];simp[Region.wanted];refine .inl ?_;simp[Oper.wp,go_sem,av0,av4,av5];have cO:=Ay (.slice (some ⟨L,0,none⟩) 4 4) [Np.ex0,Np.ex1,Np.ex2,Np.ex3] ⟨#[120]⟩ ⟨#[99,46,121,46,120]⟩ Np.ex1.set rfl (by decide) (.slice (some ⟨d1,0,none⟩) 1 1) 1 50 5 (by decide) wd ((EU.out.keep aD.out).more aD.out.size) (Ku.out.later az bf aD.out) Np.Cl (JQ.out.later br bB aD.out);rw[show Np.eY [Np.ex0,Np.ex1,Np.ex2,Np.ex3] Np.ex1.set (⟨#[99,46,121,46,120]⟩:ByteArray).data.toList 1 50 5=(⟨0,([],0),[]⟩,1) from Np.Mt] at cO;refine cO.mono ?_;clear cO;rintro e wj ⟨qg,Ag,ng,mg,rfl,_,_,_,aJ⟩;replace c5:=(aJ.cell (p:=⟨L,5,none⟩) (by have h1:=fM.out;have h2:=aD.out.size;dsimp only;omega)).trans c5;replace c6:=(aJ.cell (p:=⟨L,6,none⟩) (by have h1:=fM.out;have h2:=aD.out.size;dsimp only;omega)).trans c6;replace c7:=(aJ.cell (p:=⟨L,7,none⟩) (by have h1:=fM.out;have h2:=aD.out.size;dsimp only;omega)).trans c7;replace c8:=(aJ.cell (p:=⟨L,8,none⟩) (by have h1:=fM.out;have h2:=aD.out.size;dsimp only;omega)).trans c8;replace k0:=(aJ.cell (p:=⟨b9,0,none⟩) (by have h1:=nl.out;have h2:=aD.out.size;dsimp only;omega)).trans k0;replace k1:=(aJ.cell (p:=⟨b9,1,none⟩) (by have h1:=nl.out;have h2:=aD.out.size;dsimp only;omega)).trans k1;have cU:=jq (aD.out.trans (aJ.mono aD.out.size));have J0:=jq aJ;clear aJ;dsimp only;refine f9 11 (D:=[0,1,2,3,4,5,7,8,9,6,10]) (val:=eK L d0 g0 d1 g1 d2 g2 d3 g3 b9 (.tuple #[.agg #[.int .i64 0,.string qg,.int .i64 0,.slice Ag ng mg],.int .i64 1]) (.pointer (some ⟨w20.heap.size,0,none⟩)) undef) qX qY (hH.next qX qY hr) (by kernel_rfl) ?_ ?_
     ·intro i aW bE o ho a' hb aV;have k1':=aTK hb je.out;have k9':=aTK hb tC.out;simp[Act.eval] at k1' k9'
      repeat' (rcases aW with _ | ⟨_,aW⟩)
      all_goals first
       | (exfalso;simp at bE;done)
       | (cases ho
          try simp[Act.eval,Region.binds,eK,fB] at aV
          refine eZ (by simp[Region.wanted]) ?_;simp[Oper.quietAt,Oper.quietUpon,execOp,go_sem,eK,k1',k9',c5,c6,c7,c8,k0,k1,kS,kT,aV])
     ·intro f listed a' hH hr hv;have av8:=hv 8;have av10:=hv 10;simp[Act.eval,eK,fB,kS,kT] at av8 av10;simp only[wpOp];simp[Region.wanted];refine .inl ?_;have aS:=((J0.out.block w20.heap.size jf.out).trans lL.out);have y0:=ae _ aS 0 _ rfl;have f0:wj.frozen? ⟨w20.heap.size,0,none⟩=false:=by simp[World.frozen?,aS]
      have y1:=ae _ aS 1 _ rfl;have f1:wj.frozen? ⟨w20.heap.size,1,none⟩=false:=by simp[World.frozen?,aS]
      have y2:=ae _ aS 2 _ rfl;have f2:wj.frozen? ⟨w20.heap.size,2,none⟩=false:=by simp[World.frozen?,aS]
      have y3:=ae _ aS 3 _ rfl;have f3:wj.frozen? ⟨w20.heap.size,3,none⟩=false:=by simp[World.frozen?,aS]
      simp[Oper.wp,execOp,go_sem,av8,av10,y0,y1,y2,y3,f0,f1,f2,f3];have hE:w20.heap.size<=w20.heap.size:=by first | exact bQ _ | exact cU.out.size
      have pO:=yX (cU.out) hE (.int .i64 0) (.string qg) (.int .i64 0) (.slice Ag ng mg);obtain⟨ws,At⟩:=aRX ((((wj.setCell ⟨w20.heap.size,0,none⟩ (.int .i64 0)).setCell ⟨w20.heap.size,1,none⟩ (.string qg)).setCell ⟨w20.heap.size,2,none⟩ (.int .i64 0)).setCell ⟨w20.heap.size,3,none⟩ (.slice Ag ng mg));rw[<-At] at pO |-;have em:=jq pO;clear At pO aS y0 y1 y2 y3 f0 f1 f2 f3 c5 c6 c7 c8 k0 k1;have c5:=(em.out.cell (p:=⟨L,5,none⟩) fM.out).trans (ae _ kB.out.l 5 _ rfl);have c6:=(em.out.cell (p:=⟨L,6,none⟩) fM.out).trans (ae _ kB.out.l 6 _ rfl);have c7:=(em.out.cell (p:=⟨L,7,none⟩) fM.out).trans (ae _ kB.out.l 7 _ rfl);have c8:=(em.out.cell (p:=⟨L,8,none⟩) fM.out).trans (ae _ kB.out.l 8 _ rfl);have k0:=(em.out.cell (p:=⟨b9,0,none⟩) nl.out).trans (ae _ vN.out 0 _ rfl);have k1:=(em.out.cell (p:=⟨b9,1,none⟩) nl.out).trans (ae _ vN.out 1 _ rfl);refine f9 12 (D:=[0,1,2,3,4,5,7,8,9,6,10,11]) (val:=eK L d0 g0 d1 g1 d2 g2 d3 g3 b9 (.tuple #[.agg #[.int .i64 0,.string qg,.int .i64 0,.slice Ag ng mg],.int .i64 1]) (.pointer (some ⟨w20.heap.size,0,none⟩)) (.bool false)) CR N0 (hH.skip hr (hv:=yt.out.symm)) (by kernel_rfl) ?_ ?_
      ·intro i aW bE o ho a' hb aV;have k1':=aTK hb je.out;have k9':=aTK hb tC.out;simp[Act.eval] at k1' k9'
       repeat' (rcases aW with _ | ⟨_,aW⟩)
       all_goals first
        | (exfalso;simp at bE;done)
        | (cases ho
           try simp[Act.eval,Region.binds,eK,fB] at aV
           refine eZ (by simp[Region.wanted]) ?_;simp[Oper.quietAt,Oper.quietUpon,execOp,go_sem,eK,k1',k9',c5,c6,c7,c8,k0,k1,kS,kT,aV])
      ·intro f listed a' hH hr hv;have av9:=hv 9;simp[Act.eval,eK,fB,kS,kT] at av9;simp only[wpOp];simp[Region.wanted];refine .inl ?_;simp[Oper.wp,execOp,go_sem,av9];refine rI hH hr HM.out CR (by kernel_rfl) λfC=>?_
       ·rw[fC];exact⟨qg,Ag,ng,mg,w20.heap.size,rfl,rfl,em.out⟩
 rintro ex a' w21 ⟨qg,Ag,ng,mg,E,rfl,rfl,iX⟩;clear c5 c6 c7 c8 k0 k1 Aq;rw[qr.out];simp[nb,Act.put,eK,fB,kS,kT];have Tv:=jq ((EU.out.keep iX).more iX.size);have Jt:=jq (Js.out.trans (iX.mono Js.out.size));have KF:=jq (kB.out.keep iX);have BV:=jq ((iX.block b2 (eQ.1 KP.out).1).trans KP.out);have Kz:=jq (Ul.out.later iX);have K0:=jq ((iX.block b3 (eQ.1 KZ.out).1).trans KZ.out);have Uw:=jq (Uv.out.later iX);have Lh:=jq ((iX.block b4 (eQ.1 Lg.out).1).trans Lg.out);have UJ:=jq (UI.out.later iX);have Ls:=jq ((iX.block b5 (eQ.1 Lr.out).1).trans Lr.out);have UV:=jq (UU.out.later iX);have LE:=jq ((iX.block b7 (eQ.1 LD.out).1).trans LD.out);have U7:=jq (U6.out.later iX);have TF:=jq (TE.out.keep iX);have R8:=jq (R7.out.later az bf iX);have Jl:=jq ((iX.block b8 (eQ.1 Jk.out).1).trans Jk.out);obtain rfl:nf2=0:=(xI Sh.out).symm;clear iX;have vH:Hid (∀ g:bA w21,Calls prog 16 #[.slice A2 n2 m2,.slice (some ⟨L,15,none⟩) 1 1] g.w λe w'=>e = .returned (.bool true)/\Below g.w.heap.size g.w w'):=jq (λg=>by
  obtain⟨q',A',n',c',h1,_,_,h4⟩:=Kz.out.later g.below;simp only[List.cons.injEq,Value.slice.injEq,and_true] at h1;obtain⟨_,_,_,rfl,rfl,rfl⟩:=h1;exact DU _ _ [Np.ex3] g.w h4 (by have h:=(KF.out.keep g.below).last;rwa [Np.Ck] at h))
 have y0:=ae _ BV.out 0 _ rfl;have y3:=ae _ BV.out 3 _ rfl;have lb2:b2<w21.heap.size:=World.block_lt_of_cell? _ _ y0;have y0':∀ g:bA w21,g.w.cell? ⟨b2,0,none⟩=_:=λg=>(g.cell ⟨b2,0,none⟩ lb2).trans y0;have y3':∀ g:bA w21,g.w.cell? ⟨b2,3,none⟩=_:=λg=>(g.cell ⟨b2,3,none⟩ lb2).trans y3;clear y0 y3;have di:∀ w,(Instr.slice 22 (.slice (some ⟨L,0,none⟩) 4 4) (some (.int .i64 3)) none none).run prog w = .ok (.slice (some ⟨L,15,none⟩) 1 1) w:=λw=>by kernel_rfl
 go_wp2_with fail;refine aTX ?_
 repeat (go_big_quiet_step (fail))
 go_big_quiet_step ((go_at_call 16;exact Calls.grow_of (vH.out _)))
 repeat (go_big_quiet_step (fail))
 refine wpQuiet_nil ?_;rintro _ ⟨gg,rfl⟩;obtain⟨w22,Hg⟩:=aRZ gg.w;have iY:Below w21.heap.size w21 w22:=by rw[<-Hg];exact gg.below
 rw[Hg];have Tw:=jq ((Tv.out.keep iY).more iY.size);have Ju:=jq (Jt.out.trans (iY.mono Jt.out.size));have Vo:=jq (KF.out.keep iY);have aSX:=jq ((iY.block b2 (eQ.1 BV.out).1).trans BV.out);have aRK:=jq (Kz.out.later iY);have BW:=jq ((iY.block b3 (eQ.1 K0.out).1).trans K0.out);have Ux:=jq (Uw.out.later iY);have Li:=jq ((iY.block b4 (eQ.1 Lh.out).1).trans Lh.out);have UK:=jq (UJ.out.later iY);have Lt:=jq ((iY.block b5 (eQ.1 Ls.out).1).trans Ls.out);have UW:=jq (UV.out.later iY);have LF:=jq ((iY.block b7 (eQ.1 LE.out).1).trans LE.out);have U8:=jq (U7.out.later iY);have TG:=jq (TF.out.keep iY);have Sa:=jq (R8.out.later az bf iY);have Jm:=jq ((iY.block b8 (eQ.1 Jl.out).1).trans Jl.out);clear iY Hg y0' y3' di lb2;have y0:=ae _ BW.out 0 _ rfl;have y1:=ae _ BW.out 1 _ rfl;have y2:=ae _ BW.out 2 _ rfl;have y3:=ae _ BW.out 3 _ rfl;go_wp2_with fail;clear y0 y1 y2 y3;refine (DW ⟨3,([120],7),[]⟩ [.int .i64 3,.string q3,.int .i64 7,.slice A3 n3 m3] [.int .i64 3,.string ⟨#[120]⟩,.int .i64 7,.slice none 0 0] w22 Ux.out ⟨⟨#[120]⟩,none,0,0,rfl,rfl,by decide,g8 _ _⟩).mono ?_;rintro e w23 ⟨rfl,hb⟩;have Tx:=jq ((Tw.out.keep hb).more hb.size);have El:=jq (Ju.out.trans (hb.mono Ju.out.size));have Vp:=jq (Vo.out.keep hb);have BX:=jq ((hb.block b4 (eQ.1 Li.out).1).trans Li.out);have UL:=jq (UK.out.later hb);have Lu:=jq ((hb.block b5 (eQ.1 Lt.out).1).trans Lt.out);have UX:=jq (UW.out.later hb);have LG:=jq ((hb.block b7 (eQ.1 LF.out).1).trans LF.out);have U9:=jq (U8.out.later hb);have TH:=jq (TG.out.keep hb);have Sb:=jq (Sa.out.later az bf hb);have Jn:=jq ((hb.block b8 (eQ.1 Jm.out).1).trans Jm.out);clear hb;have y0:=ae _ BX.out 0 _ rfl;have y1:=ae _ BX.out 1 _ rfl;have y2:=ae _ BX.out 2 _ rfl;have y3:=ae _ BX.out 3 _ rfl;go_wp2_with fail;clear y0 y1 y2 y3;refine (DW ⟨3,([119,46,120],1),[]⟩ [.int .i64 3,.string q4,.int .i64 1,.slice A4 n4 m4] [.int .i64 3,.string ⟨#[119,46,120]⟩,.int .i64 1,.slice none 0 0] w23 UL.out ⟨⟨#[119,46,120]⟩,none,0,0,rfl,rfl,by decide,g8 _ _⟩).mono ?_;rintro e w24 ⟨rfl,hb⟩;have Ty:=jq ((Tx.out.keep hb).more hb.size);have Jv:=jq (El.out.trans (hb.mono El.out.size));have Vq:=jq (Vp.out.keep hb);have BY:=jq ((hb.block b5 (eQ.1 Lu.out).1).trans Lu.out);have UY:=jq (UX.out.later hb);have LH:=jq ((hb.block b7 (eQ.1 LG.out).1).trans LG.out);have Va:=jq (U9.out.later hb);have TI:=jq (TH.out.keep hb);have Sc:=jq (Sb.out.later az bf hb);have Jo:=jq ((hb.block b8 (eQ.1 Jn.out).1).trans Jn.out);clear hb;have y0:=ae _ BY.out 0 _ rfl;have y1:=ae _ BY.out 1 _ rfl;have y2:=ae _ BY.out 2 _ rfl;have y3:=ae _ BY.out 3 _ rfl;go_wp2_with fail;clear y0 y1 y2 y3;refine (DW ⟨2,([],0),[]⟩ [.int .i64 2,.string q5,.int .i64 0,.slice A5 n5 m5] [.int .i64 2,.string ⟨#[]⟩,.int .i64 0,.slice none 0 0] w24 UY.out ⟨⟨#[]⟩,none,0,0,rfl,rfl,by decide,g8 _ _⟩).mono ?_;rintro e w25 ⟨rfl,hb⟩;have Tz:=jq ((Ty.out.keep hb).more hb.size);have Jw:=jq (Jv.out.trans (hb.mono Jv.out.size));have Vr:=jq (Vq.out.keep hb);have BZ:=jq ((hb.block b7 (eQ.1 LH.out).1).trans LH.out);have Vb:=jq (Va.out.later hb);have TJ:=jq (TI.out.keep hb);have Sd:=jq (Sc.out.later az bf hb);have Jp:=jq ((hb.block b8 (eQ.1 Jo.out).1).trans Jo.out);clear hb;have y0:=ae _ BZ.out 0 _ rfl;have y1:=ae _ BZ.out 1 _ rfl;have y2:=ae _ BZ.out 2 _ rfl;have y3:=ae _ BZ.out 3 _ rfl;go_wp2_with fail;clear y0 y1 y2 y3;refine (DW ⟨2,([],0),[]⟩ [.int .i64 2,.string q7,.int .i64 0,.slice A7 n7 m7] [.int .i64 2,.string ⟨#[]⟩,.int .i64 0,.slice none 0 0] w25 Vb.out ⟨⟨#[]⟩,none,0,0,rfl,rfl,by decide,g8 _ _⟩).mono ?_;rintro e w26 ⟨rfl,hb⟩;have aRJ:=jq ((Tz.out.keep hb).more hb.size);have Jy:=jq (Jw.out.trans (hb.mono Jw.out.size));have aRY:=jq (Vr.out.keep hb);have TK:=jq (TJ.out.keep hb);have Se:=jq (Sd.out.later az bf hb);have Rk:=jq ((hb.block b8 (eQ.1 Jp.out).1).trans Jp.out);clear hb;have a1:=ae _ Rk.out 1 _ rfl;go_wp2_with fail;clear a1;refine (DU _ _ [Np.rfS,Np.rfA] w26 Se.out TK.out.two).mono ?_;rintro e w27 ⟨rfl,hb⟩;have Rq:=jq (Jy.out.trans (hb.mono Jy.out.size));clear hb;go_wp2_with fail;go_ret;exact⟨rfl,Rq.out⟩
end
section
open Go.RowKit
def Q4(l:List Np.Signed)(w:World)(e:Ending)(w':World):Prop:=
 ∃ b:Bool,e = .returned (.bool b)/\w=w'/\(b=true->l.length<=120/\∀ x∈l,x.set.data.length<=20/\x.sigs.length<=20)
def Q5(l:List Np.Signed)(i:Value):Prop:=∃ k:Nat,k<=l.length/\k<=121/\i = .int .i64 k/\Hid (∀ j x,j<k->l[j]?=some x->x.set.data.length<=20/\x.sigs.length<=20)
theorem Fy(v:Value)(l:List Np.Signed)(w:World)(hl:SlR aB 5 w w.heap.size v l):Calls prog 10 #[v] w (Q4 l w):=by
 have HL:=jq hl;obtain⟨A,c,rfl,bi,fD,-⟩:=hl;go_enter func10,ntmps10;go_wp2_with fail;go_loop [3] (λi=>Q5 l i) (λi=>l.length - (intOf i).toNat)
 case atStart=>exact⟨0,jQ _,by omega,rfl,jq (λj z h=>by omega)⟩
 case round=>
  obtain⟨k,hk,a0Y,rfl,HA⟩:=hrel;by_cases af:k<l.length
  ·by_cases pR:k<=120
   ·have gr:(k:Int)<=120:=by omega
    have Da:(k:Int)<l.length:=by omega
    have ka:=aQ af;obtain⟨b,o,c',sn,dv,sv,hA,eU,_,dq,au,bZ,cx,e0,e1,e2,e3,e4⟩:=mE HL.out ka
    cases hA
    generalize hx:l[k]=x at *;clear hx;obtain⟨Ad,cd,rfl,aS,hld⟩:=fc bZ;obtain⟨Ag,cg,rfl,sR,hlg⟩:=fc cx;have HX:=jq ka;clear ka dq bZ cx e0 e1 e2;by_cases X0:x.set.data.length<=20
    ·have FJ:¬ (20:Int)<(x.set.data.length:Int):=by omega
     have X1:decide ((20:Int)<(x.set.data.length:Int))=false:=tQ FJ;by_cases g20:x.sigs.length<=20
     ·have g20b:¬ (20:Int)<(x.sigs.length:Int):=by omega
      have g20c:decide ((20:Int)<(x.sigs.length:Int))=false:=tQ g20b;go_wp2_with fail;go_round
      case rel=>
       refine⟨k+1,by omega,by omega,by go_num,jq (λj y hj hy=>?_)⟩;by_cases e:j=k
       ·subst e;rw[HX.out] at hy;cases hy;exact⟨X0,g20⟩
       ·exact HA.out j y (by omega) hy
      case measure=>simp[intOf]<;>omega
     ·have g20b:(20:Int)<(x.sigs.length:Int):=by omega
      have g20c:decide ((20:Int)<(x.sigs.length:Int))=true:=uQ g20b;go_wp2_with fail;go_ret;exact⟨false,rfl,rfl,λh=>by cases h⟩
    ·have FJ:(20:Int)<(x.set.data.length:Int):=by omega
     have X1:decide ((20:Int)<(x.set.data.length:Int))=true:=uQ FJ;go_wp2_with fail;go_ret;exact⟨false,rfl,rfl,λh=>by cases h⟩
   ·obtain rfl:k=121:=by omega
    have Da:((121:Nat):Int)<l.length:=by omega
    have h0:decide ((l.length:Int)<=120)=false:=aSJ;go_wp2_with fail;go_ret;exact⟨false,rfl,rfl,λh=>by cases h⟩
  ·obtain rfl:k=l.length:=by omega
   have HY:Hid (∀ x∈l,x.set.data.length<=20/\x.sigs.length<=20):=jq (λx hx=>by
    obtain⟨j,hj,rfl⟩:=nQ.1 hx;exact HA.out j _ hj (aQ hj))
   by_cases h0:l.length<=120
   ·have ww:decide ((l.length:Int)<=120)=true:=aTZ;go_wp2_with fail;go_ret;exact⟨true,by simp[ww],rfl,λ_=>⟨h0,HY.out⟩⟩
   ·have ww:decide ((l.length:Int)<=120)=false:=aSJ;go_wp2_with fail;go_ret;exact⟨false,by simp[ww],rfl,λh=>by cases h⟩
theorem Qo(s:ByteArray)(ty life:Int)(v u:Value)(gs:List Np.Sig)(x:Np.DSet)(w:World)(hg:SlR dw 6 w w.heap.size u gs) :
 Calls prog 17 #[.agg #[.string s,.int .i64 ty,.int .i64 life,v,u]] w λe w'=>∃ c:ByteArray,e = .returned (.string c)/\(c.data.toList=Np.aE ⟨x,gs⟩/\c.size<=140737488355328)/\Below w.heap.size w w':=by
 have hb:∀ o,Below w.heap.size w (w.alloc o):=λo=>(vQ _ _).alloc (bQ _) o;have HB:=jq hb;clear hb;obtain⟨A,c,rfl,hc,_,he⟩:=hg
 cases gs with
 | nil=>
  clear he;go_enter func17,ntmps17;go_wp2_with fail;go_ret;exact⟨_,rfl,⟨rfl,by decide⟩,HB.out _⟩
 | cons g r=>
  obtain⟨b,o,e,rfl,hb,_,hce,z,hz,dV,rfl⟩:=he 0 g rfl;have h0:w.cell? ⟨b,o,none⟩=some (.string z):=by have:=hce 0 _ rfl;simpa using this
  have HZ:=jq hz;clear he hce hz;simp only[List.length_cons] at hc |-;obtain⟨n,hn⟩:=aRZ r.length;rw[hn] at hc |-;clear hn;have h5:(0:Int)<((n+1:Nat):Int):=by omega
  have h6:(((n+1:Nat):Int) == 0)=false:=by simp only[beq_eq_false_iff_ne,ne_eq];omega
  go_enter func17,ntmps17;go_wp2_with fail;go_ret;exact⟨_,rfl,⟨HZ.out,dV⟩,HB.out _⟩
theorem atQ(n:ByteArray)(hn:n.size<=140737488355328)(ty:Int)(w:World) :
 Calls prog 24 #[.agg #[.string n,.int .i64 ty]] w λe w'=>e = .returned (.bool (Np.ao n.data.toList&&(decide (1<=ty)&&decide (ty<=8))))/\Below w.heap.size w w':=by
 obtain⟨X,hX⟩:=aRZ w.heap.size;obtain⟨w1,ah⟩:=aRZ (w.alloc (.cells #[.string n,.int .i64 ty] 27));have hb:Below w.heap.size w w1:=by rw[<-ah];exact blAl
 have bx:w1.heap.size=X+1:=by rw[<-ah,<-hX];simp
 have aH:=jq hb;have k0:w1.cell? ⟨X,0,none⟩=some (.string n):=by rw[<-ah,<-hX];simp[go_sem]
 have k1:w1.cell? ⟨X,1,none⟩=some (.int .i64 ty):=by rw[<-ah,<-hX];simp[go_sem]
 clear hb;go_enter func24,ntmps24;go_wp2_with fail
 try clear ah
 refine (P5 n hn w1).mono ?_;rintro e w2 ⟨rfl,hb⟩;replace k1:=aQY hb k1;have ax:=aRQ aH hb;clear hb k0;obtain⟨r,hr⟩:=aRZ (Np.ao n.data.toList);have HR:=jq hr;rw[hr];clear hr
 cases r with
 | false=>
  go_wp2_with fail;exact bodyPost_ret (v:=.bool false) (by simp[results,results24,go_sem]) rfl ⟨by rw[HR.out];rfl,ax.out⟩
 | true=>
  by_cases h1:1<=ty
  ·have me:decide (1<=ty)=true:=uQ h1;go_wp2_with fail;exact bodyPost_ret (v:=.bool (decide (ty<=8))) (by simp[results,results24,go_sem]) rfl ⟨by rw[HR.out,me];rfl,ax.out⟩
  ·have me:decide (1<=ty)=false:=tQ h1;go_wp2_with fail;exact bodyPost_ret (v:=.bool false) (by simp[results,results24,go_sem]) rfl ⟨by rw[HR.out,me];rfl,ax.out⟩
end
end Go.Proofs.YtadhigmjilijcaaGreatDoor
